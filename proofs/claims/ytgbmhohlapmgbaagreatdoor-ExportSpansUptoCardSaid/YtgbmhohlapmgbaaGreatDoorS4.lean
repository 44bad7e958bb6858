/- The statement ExportSpansUptoCardSaid of the given program is proved here: for every input whose bulk is at most the bound of its row, the law returns true and changes nothing. Part 4 of 7. -/
import Derived.Lib.Bytealg
import Derived.Lib.Index
import Derived.Lib.ItoaNum
import Derived.KernelRfl
import Derived.Lib.IndexLaws
import Derived.Lib.IndexMore
import Derived.Test.YtgbmhohlapmgbaaGreatDoorS3
set_option linter.unusedVariables false
set_option linter.unusedSimpArgs false
set_option linter.unusedSectionVars false
set_option linter.constructorNameAsVariable false
set_option linter.defProp false
open Bool renaming and_true->qX,eq_iff_iff->zR,false->I,false_and->HP,false_eq_true->bL,false_or->w6,not_false->sB,not_true->kF,or_true->zQ,true->W,true_and->uz,true_or->xg
open Go.IntKind renaming i64->a7,u32->o8,wrap->aby
open Go.Lib renaming decDigits->zS,index->w7,indexByte->fm,index_room->ahS,occAt->zT
open Int renaming eq_ofNat_of_zero_le->nW,ofNat->fW,toNat_natCast->fq,toNat->G
open List renaming append_nil->Cn,drop_eq_getElem_cons->xe,drop_zero->Hz,flatMap_append->xb,getD_cons_zero->pX,getD_eq_getElem?_getD->jP,getElem?_eq_getElem->eM,getElem?_eq_some_iff->iO,getElem_drop->Cx,getElem_mem->eF,getLast?_eq_some_iff->ahR,isPrefixOf->rc,isPrefixOf_iff_prefix->Od,length->wX,length_append->lg,length_cons->kO,length_drop->Hr,length_filter_le->HO,length_nil->Cs,map_cons->eU,mem_cons->jQ,range->iz,range_succ->xc,replicate->ep,takeWhile_cons->HQ,take_append_drop->nQ,take_length->ur,take_succ_eq_append_getElem->iP,getD->H,isPrefixOf->ac3,length->Y
open List.Pairwise renaming nil->ayX
open Nat renaming ble->gN,ble_eq->iJ,le_refl->dR,le_trans->uy,lt_of_le_of_lt->kQ,lt_of_succ_lt->cM,lt_or_ge->js,sub_le->xf,zero_add->wZ,zero_le->fV
open Option renaming getD_some->fL,map->gj,map_some->m8,none->O,some->J,getD->X,isSome->V
open Option.some renaming inj->ra,injEq->nU
open Sum renaming inl->mo,inr->mm
open UInt8 renaming ofNat->kC
open _root_ renaming Bool->az,Int->L,List->M,Nat->U,Option->Q,UInt8->ao,Unit->bV,absurd->cO,beq_iff_eq->dL,bne_self_eq_false->sE,congrArg->bX,decide_eq_false->jC,decide_eq_true->ke,if_false->ch,if_neg->aV,if_pos->aF,if_true->bI
namespace Go.Fd
open Go Go.Vs Go.Ve
@[reducible] def cr{α:Type}(P:Prop)[Decidable P](A:Q α):Q α:=if decide P=W then A else O
@[reducible] def au{α:Type}(b:az)(A:Q α):Q α:=if b=W then A else O
@[reducible] def aK{α:Type}(P:Prop)[Decidable P](A B:α):α:=if decide P=W then A else B
@[reducible] def ah{α:Type}(b:az)(A B:α):α:=if b=W then A else B
@[reducible] def cJ{α β:Type}(i:L)(l:M β)(A:Q α):Q α:=if decide (0≤i∧i<ag l)=W then A else O
@[reducible] def cz{α:Type}(l:M α)(i:L)(d:α):α:=H l (G i) d
@[reducible] def aM{α:Type}(l:Q (M α))(i:L)(d:α):α:=H (X l []) (G i) d
@[reducible] def al{α:Type}(l:Q (M α)):M α:=X l []
@[reducible] def ay(x:L):L:=aby a7 (x+1)
@[reducible] def bd(x:L):L:=aby a7 x
@[reducible] def aH{σ ρ:Type}(x:σ):Q (σ⊕ρ):=J (mo x)
@[reducible] def aA{σ ρ:Type}(x:ρ):Q (σ⊕ρ):=J (mm x)
@[reducible] def fE(x:ao):L:=fW x.toNat
@[reducible] def iw{α:Type}(n:U)(A:Q α):Q α:=if decide (n≤nat_lit 1152921504606846976)=W then A else O
@[reducible] def c9(n:U):az:=decide (n≤nat_lit 1152921504606846976)
@[reducible] def de{β:Type}(i:L)(l:M β):az:=bT (G i) (Y l)
@[reducible] def iW{α β:Type}(i:L)(l:M β)(A:Q α):Q α:=if decide (0≤i)=W then(if bT (G i) (Y l)=W then A else O)else O
@[reducible] def aX{σ ρ α:Type}(f:σ→Q (σ⊕ρ))(x:σ)(k:ρ→Q α):Q α:=aq (bR f x) k
@[reducible] def bJ{α β:Type}(i:L)(l:M β)(A B:Q α):Q α:=if decide (i<ag l)=W then(if decide (0≤i∧i<ag l)=W then A else O)else B
@[reducible] def aj{α β:Type}(x:α)(k:α→β):β:=k x
@[reducible] def bv:U:=nat_lit 1
@[reducible] def jh:U:=nat_lit 2
@[reducible] def n3Z:U:=nat_lit 3
abbrev bz:Type:=M ao
abbrev mc:Type:=bz×L
abbrev jW:Type:=L×mc
abbrev bU:Type:=Q (M jW)
abbrev ky:Type:=Q (M (az×bz×bz))
abbrev gK:Type:=L×ky
abbrev rT:Type:=Q (M gK)
abbrev eR:Type:=L×L
abbrev tz:Type:=L×az
abbrev kZ:Type:=L×L×L×eR×L×bU×bz×tz
abbrev eX:Type:=rT×Q (M kZ)×L
abbrev pB:Type:=L×eR
abbrev anE:Type:=L×L×L×L×L×L×L×pB
abbrev anF:Type:=L×anE
abbrev anG:Type:=L×anF
abbrev anH:Type:=L×anG
abbrev anI:Type:=L×anH
abbrev anJ:Type:=L×anI
abbrev anK:Type:=L×anJ
abbrev anL:Type:=L×anK
abbrev anM:Type:=L×anL
abbrev anN:Type:=L×anM
abbrev anO:Type:=L×anN
abbrev anP:Type:=L×anO
abbrev anQ:Type:=L×anP
abbrev anR:Type:=L×anQ
abbrev anS:Type:=L×anR
abbrev anT:Type:=L×anS
abbrev anU:Type:=L×anT
abbrev anV:Type:=L×anU
abbrev anW:Type:=L×anV
abbrev anX:Type:=L×anW
abbrev anY:Type:=L×anX
abbrev anZ:Type:=L×anY
abbrev an0:Type:=L×anZ
abbrev an1:Type:=an0×tz
abbrev an2:Type:=M an1
abbrev tA:Type:=Q an2
abbrev dw:Type:=Q (M L)
abbrev lG:Type:=rT×Q (M kZ)×L×M (eR×bU)
abbrev mL:Type:=Q (M pB)
abbrev lH:Type:=Q (M bz)
abbrev vR:Type:=L×L×L×M (ao×bz)×lH
abbrev jK:Type:=Q (L⊕az⊕bV)
abbrev jL:Type:=bU×L
abbrev lb:Type:=bU×dw×dw×jL
abbrev dM:Type:=Q az
abbrev ach:Type:=M gK×Q (M kZ)×L
abbrev md:Type:=bU×dw×dw×eR
abbrev kL:Type:=Q (L⊕L)
abbrev gf:Type:=dw×L
abbrev tB:Type:=Q (M (az×tA×tA))
abbrev yy:Type:=bz×ky×L
abbrev me:Type:=bU×dw×dw
abbrev rU:Type:=Q (L⊕L⊕bV)
abbrev lI:Type:=Q (M eR)
abbrev qx:Type:=bz×gK
abbrev KA:Type:=L×L×qx
abbrev Eo:Type:=L×L×L×KA
abbrev gL:Type:=Q L
abbrev pC:Type:=Q (M bU)
abbrev Bg:Type:=L×yy
abbrev Bh:Type:=L×L×L×Bg
abbrev vS:Type:=Q (eR⊕L)
abbrev vT:Type:=ky×eR
abbrev vU:Type:=Q vT
abbrev yz:Type:=Q (jL⊕bU)
abbrev lJ:Type:=Q bU
abbrev tC:Type:=Q (M az)
abbrev aci:Type:=Q (dw×gf⊕dw×dw×az⊕dw×dw)
abbrev Bi:Type:=Q (gf⊕dw)
abbrev yA:Type:=Q (eX×L)
abbrev Bj:Type:=jW×L
abbrev R2:Type:=Q (bz×vR⊕mc⊕bz)
abbrev qy:Type:=mL×eR
abbrev pD:Type:=Q mc
abbrev KB:Type:=M az×L
abbrev R3:Type:=Q (KB⊕M az)
abbrev R4:Type:=Q (L⊕L×jW⊕bV)
abbrev R5:Type:=bz×L×ky×L×pB
abbrev an3:Type:=Q (L×R5⊕vT⊕R5)
abbrev KC:Type:=bz×bV×L×pB
abbrev qz:Type:=bU×eR
abbrev pE:Type:=Q bz
abbrev Bk:Type:=L×az×lG
abbrev acj:Type:=bU×bU×dw×pB
abbrev KD:Type:=bU×dw×eR
abbrev an4:Type:=Q (acj⊕KD⊕bU×bU×gf)
abbrev Bl:Type:=bz×eR
abbrev R6:Type:=Q (Bl⊕mc)
abbrev yB:Type:=L×ach
abbrev R7:Type:=Q (yB⊕ach)
abbrev KE:Type:=Q (mc⊕bz)
abbrev yC:Type:=L×gK
abbrev an5:Type:=Q (L×bz×L×jL⊕yC⊕L×bz×L×bU)
abbrev ack:Type:=Q (M Bj×L⊕M Bj)
abbrev Ep:Type:=M (L×bU)
abbrev tD:Type:=Q dw
abbrev KF:Type:=Q (gK×L)
abbrev vV:Type:=L×eX
abbrev acm:Type:=L×M (bz×az)×qx
abbrev acn:Type:=Q (eR⊕az⊕bV)
abbrev aco:Type:=Q (bV⊕az⊕bV)
abbrev Bm:Type:=Q Bj
abbrev acp:Type:=Q (dw×dw×az)
abbrev acq:Type:=Q (bz×bz×az)
abbrev acr:Type:=Q (L×az×az)
def yD:Q tB:=J (J [(W,J [((0,0,0,0,2,64,0,0,0,0,0,0,0,0,0,0,0,0,0,0,0,0,0,0,0,0,0,0,0,0,0,0),1,I)],J [((0,0,0,0,1,0,0,0,0,0,0,0,0,0,0,0,0,0,0,0,0,0,0,0,0,0,0,0,0,0,0,0),1,I)])])
def yE:L→gL:=λb=>aj (aK (b≥97) (decide (b≤122)||decide (b≥128)) (decide (b≥128))) λu=>ah (b==9||(b==10||(b==13||b==32))) (J 2) (ah (decide (b<32)||b==127) (J 1) (ah (decide (b≥48)&&decide (b≤57)) (J 3) (ah (aK (b≥65) (decide (b≤90)||u) u) (J 4) (J 5))))
def KG:bz→L→kL:=λs a=>aK (a<ag s) (iW a s (aq (yE (fE (cz s a 0))) λb=>ah (b==2) (aH (ay a)) (aA a))) (aA a)
def Sb:bz→L→kL:=λs a=>iW (bd (a-1)) s (aq (yE (fE (cz s (bd (a-1)) 0))) λb=>ah (b==2) (aH (bd (a-1))) (aA a))
def Er:bz→Q eR:=λs=>aX (KG s) 0 λa=>ah (a==ag s) (J (0,0)) (aX (Sb s) (ag s) λb=>J (a,b))
def Es:bU→eR→vS:=λf a=>aj (ag (al f)) λu=>aj (aM f a.2 (0,[],0)) λb=>aj (decide (0≤a.2∧a.2<u)) λc=>aK (a.2<u) (au (c&&(!b.1==1||c)) (aH (ah (b.1==1) (bd (a.1+ag b.2.1)) (ay a.1),ay a.2))) (aA a.1)
def nD:bU→gL:=λf=>aX (Es f) (0,0) λa=>J a
def Et:bU→mc→KE:=λf a=>aj (aM f a.2 (0,[],0)) λu=>aj (decide (0≤a.2∧a.2<ag (al f))) λb=>aj (ah (u.1==1) (a.1++u.2.1) a.1) λc=>aj (ag (al f)) λd=>aK (a.2<d) (au (b&&((!u.1==1||b&&c9 (Y a.1+Y u.2.1))&&(b&&(!u.1==5||c9 (Y c+bv))))) (aH (ah (u.1==5) (c++[255]) c,ay a.2))) (aA a.1)
def vW:bU→pE:=λf=>aX (Et f) ([],0) λa=>J a
def Eu:bU→L→L→qz→Q (qz⊕bU):=λf b to a=>aj (aM f a.2.2 (0,[],0)) λu=>aj (Y (al a.1)) λh=>aj (bd (jw to (bd (a.2.1+ag u.2.1))-a.2.1)) λc=>aj (bd (oz b a.2.1-a.2.1)) λd=>aj (decide (0+h=h)&&(decide (h+bv≤nat_lit 68719476736)&&V a.1==V a.1)) λj=>aj (ag (al f)) λk=>aj (decide (a.2.1≥b)&&decide (a.2.1<to)) λl=>aj (u.1 !=1) λi=>aj a.2.2 λe=>aj (al a.1) λm=>aj (ag u.2.1) λg=>aK (e<k) (au (decide (0≤e∧e<k)&&ah i (!l||j) (!decide (d<c)||decide (0≤d∧d≤c∧c≤g)&&j)) (aH (ah i (ah l (J (m++[u])) a.1) (aK (d<c) (J (m++[(1,bu d c u.2.1,u.2.2)])) a.1),ah i (ay a.2.1) (bd (a.2.1+g)),ay e))) (aA a.1)
def mM:bU→L→L→Q (bU×az):=λf a to=>aK (a<0) (J (O,I)) (aK (to<a) (J (O,I)) (aq (nD f) λc=>aK (to>c) (J (O,I)) (aX (Eu f a to) (O,0,0) λb=>au (V b==V b) (au (V b==V b) (J (b,W))))))
abbrev Sd:=L×L×L×L×L×L×L×L×L×L×L×L×L×L×L×L×L×L×L×L×L×L×L×L×L×L×L×L×L×L×L×L
def Bn(x:Sd):M L:=[x.1,x.2.1,x.2.2.1,x.2.2.2.1,x.2.2.2.2.1,x.2.2.2.2.2.1,x.2.2.2.2.2.2.1,x.2.2.2.2.2.2.2.1,x.2.2.2.2.2.2.2.2.1,x.2.2.2.2.2.2.2.2.2.1,x.2.2.2.2.2.2.2.2.2.2.1,x.2.2.2.2.2.2.2.2.2.2.2.1,x.2.2.2.2.2.2.2.2.2.2.2.2.1,x.2.2.2.2.2.2.2.2.2.2.2.2.2.1,x.2.2.2.2.2.2.2.2.2.2.2.2.2.2.1,x.2.2.2.2.2.2.2.2.2.2.2.2.2.2.2.1,x.2.2.2.2.2.2.2.2.2.2.2.2.2.2.2.2.1,x.2.2.2.2.2.2.2.2.2.2.2.2.2.2.2.2.2.1,x.2.2.2.2.2.2.2.2.2.2.2.2.2.2.2.2.2.2.1,x.2.2.2.2.2.2.2.2.2.2.2.2.2.2.2.2.2.2.2.1,x.2.2.2.2.2.2.2.2.2.2.2.2.2.2.2.2.2.2.2.2.1,x.2.2.2.2.2.2.2.2.2.2.2.2.2.2.2.2.2.2.2.2.2.1,x.2.2.2.2.2.2.2.2.2.2.2.2.2.2.2.2.2.2.2.2.2.2.1,x.2.2.2.2.2.2.2.2.2.2.2.2.2.2.2.2.2.2.2.2.2.2.2.1,x.2.2.2.2.2.2.2.2.2.2.2.2.2.2.2.2.2.2.2.2.2.2.2.2.1,x.2.2.2.2.2.2.2.2.2.2.2.2.2.2.2.2.2.2.2.2.2.2.2.2.2.1,x.2.2.2.2.2.2.2.2.2.2.2.2.2.2.2.2.2.2.2.2.2.2.2.2.2.2.1,x.2.2.2.2.2.2.2.2.2.2.2.2.2.2.2.2.2.2.2.2.2.2.2.2.2.2.2.1,x.2.2.2.2.2.2.2.2.2.2.2.2.2.2.2.2.2.2.2.2.2.2.2.2.2.2.2.2.1,x.2.2.2.2.2.2.2.2.2.2.2.2.2.2.2.2.2.2.2.2.2.2.2.2.2.2.2.2.2.1,x.2.2.2.2.2.2.2.2.2.2.2.2.2.2.2.2.2.2.2.2.2.2.2.2.2.2.2.2.2.2.1,x.2.2.2.2.2.2.2.2.2.2.2.2.2.2.2.2.2.2.2.2.2.2.2.2.2.2.2.2.2.2.2]
def yF:Sd×tz→L→dM:=λa b=>if decide (0≤b∧b<256)=W then J (dt .u8 (H (Bn a.1) (G (b/8)) 0/2 ^ G (b%8)) 1==1)else O
def Ev:tA→bz→tC×L→KB→R3:=λp s d a=>aj (cJ d.2 (al p) (iW a.2 s (aq (yF (aM p d.2 ((0,0,0,0,0,0,0,0,0,0,0,0,0,0,0,0,0,0,0,0,0,0,0,0,0,0,0,0,0,0,0,0),0,I)) (fE (cz s a.2 0))) λf=>au (!f||decide (0≤ay a.2∧ay a.2<ag a.1)&&bT (0+G (ay a.2)) (Y a.1)) (aH (ah f (a.1.set (0+G (ay a.2)) W) a.1,ay a.2))))) λu=>aj (aH (a.1,ay a.2)) λe=>aj (0+G a.2) λb=>aj (al d.1) λc=>aK (a.2<ag s) (cJ a.2 c (au (bT b (Y c)) (ah (H c b I) u (cJ d.2 (al p) (ah (aM p d.2 ((0,0,0,0,0,0,0,0,0,0,0,0,0,0,0,0,0,0,0,0,0,0,0,0,0,0,0,0,0,0,0,0),0,I)).2.2 (cJ a.2 a.1 (au (bT b (Y a.1)) (ah (H a.1 b I) u e))) e))))) (aA a.1)
def Ew:tA→tC×L→M az→KB→R3:=λp g i b=>aj (aM p g.2 ((0,0,0,0,0,0,0,0,0,0,0,0,0,0,0,0,0,0,0,0,0,0,0,0,0,0,0,0,0,0,0,0),0,I)).2.1 λu=>aj (ag (al p)) λh=>aj (decide (0≤b.2∧b.2<ag b.1)) λe=>aj (0+G b.2) λa=>aj (e&&bT a (Y b.1)) λc=>aj (al g.1) λd=>aj (H b.1 a I) λf=>aK (b.2<ag i) (au (e&&(bT a (Y b.1)&&ah f c (decide (0≤g.2∧g.2<h)&&aK (u≤0) (decide (0≤b.2∧b.2<ag d)&&(bT a (Y d)&&c)) c))) (aH (ah f (b.1.set a W) (aK (u≤0) (b.1.set a (H d a I)) (b.1.set a I)),ay b.2))) (aA b.1)
def KH:tA→bz→tC×L→Q (tC×L⊕tC):=λp s a=>aK (a.2<ag (al p)) (cr (0≤ay (ag s)∧ay (ag s)≤ay (ag s)∧ay (ag s)≤68719476736) (aX (Ev p s a) (ep (G (ay (ag s))) I,0) λb=>aX (Ew p a b) (b,0) λc=>aH (J c,ay a.2))) (aA a.1)
def Ey:tA→bz→tC→Q tC:=λp s a=>au (decide (Y (al a)≤nat_lit 68719476736)&&V (eo (al a))==V (eo (al a))) (aX (KH p s) (eo (al a),0) λb=>au (V b==V b) (au (V b==V b) (J b)))
def Se:bz→Q tC:=λs=>aj (ay (ag s)) λu=>aj (ep (G u) I) λa=>cr (0≤u∧u≤u∧u≤68719476736) (au (decide (0≤(0:L)∧0<ag a)&&bT (nat_lit 0) (Y a)) (J (J (a.set (nat_lit 0) W))))
def KI:tC→eR→vS:=λb a=>bJ a.2 (al b) (aH (ah (aM b a.2 I) a.2 a.1,ay a.2)) (aA a.1)
def Sf:tA→bz→gL:=λp s=>aq (Se s) λa=>aq (Ey p s a) λb=>aX (KI b) ((-1:L),0) λc=>J c
def KJ:tA→bz→dM:=λp s=>aq (Sf p s) λa=>J (decide (a≥0))
def Si:bz→KB→R3:=λs a=>aK (a.2<ag (ep (G (ay (ag s))) I)) (au (decide (0≤a.2∧a.2<ag a.1)&&bT (0+G a.2) (Y a.1)) (aH (a.1.set (0+G a.2) W,ay a.2))) (aA a.1)
def KK:tA→bz→dM:=λp s=>cr (0≤ay (ag s)∧ay (ag s)≤ay (ag s)∧ay (ag s)≤68719476736) (aX (Si s) (ep (G (ay (ag s))) I,0) λb=>aq (Ey p s (J b)) λa=>cJ (ag s) (al a) (J (aM a (ag s) I)))
def KL:tB→bz→L→L→jK:=λa text at' b=>bJ b (al a) (cr (0≤(0:L)∧0≤at'∧at'≤ag text) (aq (KK (aM a b (I,O,O)).2.1 (bu 0 at' text)) λc=>ah c (cJ b (al a) (cr (0≤at'∧at'≤ag text∧ag text≤ag text) (aq (KJ (aM a b (I,O,O)).2.2 (bu at' (ag text) text)) λd=>ah d (cJ b (al a) (aA (.inl (aM a b (I,O,O)).1))) (aH (ay b))))) (aH (ay b)))) (aA (.inr ()))
def KN:tB→bz→L→dM:=λa text at'=>ah (decide (at'≤0)||decide (at'≥ag text)) (J I) (aX (KL a text at') 0 λb=>dc b (λc=>J c) λd=>J I)
def KO:tB→bz→gf→Bi:=λb text a=>aK (a.2<ag text) (aq (KN b text a.2) λc=>au (!c||decide (0+Y (al a.1)=Y (al a.1))&&(decide (Y (al a.1)+bv≤nat_lit 68719476736)&&V a.1==V a.1)) (aH (ah c (J (al a.1++[a.2])) a.1,ay a.2))) (aA a.1)
def KP:tB→bz→tD:=λa text=>aK (ag text>1024) (J O) (aX (KO a text) (O,1) λb=>au (V b==V b) (au (V b==V b) (J b)))
def KQ:bU→L→L→kL:=λf c a=>aK (a<c) (aq (mM f a (ay a)) λb=>au (ag (al b.1) !=1||decide (0≤(0:L)∧0<ag (al b.1))) (ah (ag (al b.1) !=1||(H (al b.1) (nat_lit 0) (0,[],0)).1 !=3) (aA a) (aH (ay a)))) (aA a)
def KR:bU→L→L→L→rU:=λf offset b a=>aK (a≤b) (aq (mM f 0 a) λc=>aq (vW c.1) λd=>ah (ag d !=offset) (aH (ay a)) (aX (KQ f b) a λe=>aA (.inl e))) (aA (.inr ()))
def KS:bU→L→gL:=λf offset=>aK (offset<0) (J (-1:L)) (aq (vW f) λa=>aK (offset>ag a) (J (-1:L)) (aq (nD f) λb=>aX (KR f offset b) 0 λc=>dc c (λd=>J d) λe=>J (-1:L)))
def yG:bU→L→dM:=λf p=>aq (mM f p (ay p)) λb=>aj (H (al b.1) (nat_lit 0) (0,[],0)) λu=>aj (al b.1) λa=>ah b.2 (ah (ag a==1) (cJ 0 a (ah (u.1==1) (cJ 0 a (au (bT (nat_lit 0) (Y u.2.1)) (aq (yE (fE (H u.2.1 (nat_lit 0) 0))) λc=>J (c==2)))) (J I))) (J I)) (J I)
def KT:bU→L→kL:=λf a=>aq (yG f a) λb=>ah b (aH (ay a)) (aA a)
def KU:bU→L→kL:=λf a=>aq (yG f (bd (a-1))) λb=>ah b (aH (bd (a-1))) (aA a)
def acs:bU→L→kL:=λf a=>aq (yG f a) λb=>ah b (aH (ay a)) (aA a)
def act:bU→L→kL:=λf a=>aq (yG f (bd (a-1))) λb=>ah b (aH (bd (a-1))) (aA a)
def KW:bU→dw→lI×eR→Q (lI×eR⊕lI):=λf p b=>aj (decide (0+Y (al b.1)=Y (al b.1))&&(decide (Y (al b.1)+bv≤nat_lit 68719476736)&&V b.1==V b.1)) λu=>aj (al p++[(-1:L)]) λd=>aj b.2.2 λa=>aj (H d (0+G a) 0) λe=>aj (al b.1) λg=>aj b.2.1 λc=>aj (ag d) λh=>aK (a<h) (au (decide (0≤a∧a<h)&&bT (0+G a) (Y d)) (aq (nD f) λj=>aK (e≥0) (aq (KS f e) λk=>aq (mM f c k) λq=>aq (vW q.1) λr=>aq (Er r) λo=>aK (o.1<o.2) (aX (KT f) c λs=>aX (KU f) k λt=>au u (aH (J (g++[(s,t)]),k,ay a))) (aH (b.1,k,ay a))) (aq (mM f c j) λv=>aq (vW v.1) λl=>aq (Er l) λi=>aK (i.1<i.2) (aX (acs f) c λm=>aX (act f) j λn=>au u (aH (J (g++[(m,n)]),j,ay a))) (aH (b.1,j,ay a))))) (aA b.1)
def KX:tB→bU→Q lI:=λa f=>aq (vW f) λd=>aq (KP a d) λb=>au (decide (0+Y (al b)=Y (al b))&&(decide (Y (al b)+bv≤nat_lit 68719476736)&&V b==V b)) (aX (KW f b) (O,0,0) λc=>au (V c==V c) (au (V c==V c) (J c)))
def Bo:bU→jL→yz:=λf b=>aj (al b.1) λu=>aj (aM f b.2 (0,[],0)) λd=>aj (decide (0+Y u=Y u)&&(decide (Y u+bv≤nat_lit 68719476736)&&V b.1==V b.1)) λi=>aj (decide (0≤bd (ag u-1)∧bd (ag u-1)<ag u)) λe=>aj (H u (0+G (bd (ag u-1))) (0,[],0)) λg=>aj (ag (al f)) λj=>aj (decide (ag u>0)) λk=>aj (bT (0+G (bd (ag u-1))) (Y u)) λh=>aj d.2.1 λa=>aj (d.1 !=1) λl=>aj (k&&g.1==1) λc=>aK (b.2<j) (au (decide (0≤b.2∧b.2<j)&&ah l i (decide (a=[])||(!k||e&&h)&&ah c (e&&(h&&(c9 (Y g.2.1+Y a)&&(e&&h)))) i)) (aH (ah l (J (u++[d])) (aK (a=[]) b.1 (J (ah c (u.set (0+G (bd (ag u-1))) (1,g.2.1++a,0)) (u++[(1,a,0)])))),ay b.2))) (aA b.1)
def Ez:bU→lJ:=λf=>aX (Bo f) (O,0) λa=>au (V a==V a) (au (V a==V a) (J a))
def lK:bU→bU→lJ:=λa b=>cr (Y (al a)≤nat_lit 68719476736) (cr (0+Y (al (eo (al a)))=Y (al (eo (al a)))) (cr (Y (al (eo (al a)))+Y (al b)≤nat_lit 68719476736) (au (V (eo (al a))==V (eo (al a))) (au (V (jU (eo (al a)) (al b))==V (jU (eo (al a)) (al b))) (aq (Ez (jU (eo (al a)) (al b))) λc=>J c)))))
def yH:bz→L→Q (L⊕bz⊕bV):=λs a=>aK (a<ag s) (au (decide (0≤a)&&de a s) (ah (aZ (cz s a 0)==32) (cr (0≤(0:L)∧0≤a∧a≤ag s) (aA (.inl (bu 0 a s)))) (aH (ay a)))) (aA (.inr ()))
def qA:bz→pE:=λs=>aX (yH s) 0 λa=>dc a (λb=>J b) λc=>J s
def Bp:bz→dM:=λname=>J (decide (name=[112])||(decide (name=[104])||(decide (name=[108,105])||(decide (name=[116,100])||decide (name=[116,105,116,108,101])))))
def nE:bz→bz→dM:=λs t=>au (!decide (ag s≥ag t)||decide (0≤(0:L)∧0≤ag t∧ag t≤ag s)) (J (decide (ag s≥ag t)&&decide (bu 0 (ag t) s=t)))
def yI:bz→L→jK:=λs a=>aj (aZ (cz s a 0)) λu=>aj (decide (a>0)&&aK (u≥48) (decide (u≤57)||u==45) (u==45)) λb=>aK (a<ag s) (au (decide (0≤a)&&de a s) (ah (aK (u≥97) (decide (u≤122)||b) b) (aH (ay a)) (aA (.inl I)))) (aA (.inr ()))
def rV:bz→dM:=λs=>ah (decide (ag s<1)||decide (ag s>24)) (J I) (aX (yI s) 0 λa=>dc a (λb=>J b) λc=>J W)
def vX:bz→L→R4:=λs a=>ah (decide (a<ag s)&&decide (a≤25)) (au (decide (0≤a)&&de a s) (ah (aZ (cz s a 0)==125) (cr (0≤(1:L)∧1≤a∧a≤ag s) (aq (rV (bu 1 a s)) λb=>ah (!b) (aA (.inr ())) (cr (0≤(1:L)∧1≤a∧a≤ag s) (aA (.inl (ay a,5,bu 1 a s,0)))))) (aH (ay a)))) (aA (.inr ()))
def Bq:bz→Bm:=λs=>aX (vX s) 1 λb=>dc b (λa=>J (a.2,a.1)) λc=>J ((0,[],0),0)
def EA:bz→L→jK:=λs a=>aj (aZ (cz s a 0)) λu=>aK (a<ag s) (au (decide (0≤a)&&de a s) (ah (decide (u<32)||(decide (u>126)||(u==60||(u==62||(u==123||u==125))))) (aA (.inl I)) (aH (ay a)))) (aA (.inr ()))
def EB:bz→dM:=λs=>aj (decide (0≤bd (ag s-1))&&de (bd (ag s-1)) s) λu=>aj (aZ (cz s (bd (ag s-1)) 0) !=47) λb=>aj (ag s) λa=>aK (a>64) (J I) (aX (EA s) 0 λf=>dc f (λg=>J g) λh=>aq (qA s) λd=>aj (decide (a>ay (ag d))) λc=>aq (rV d) λe=>au (!e||ah (ag d==a) u (!c||u)) (J (e&&ah (ag d==a) b (c&&b))))
def mN:bz→bz→L→rU:=λs t a=>aK (bd (a+ag t)≤ag s) (cr (0≤a∧a≤bd (a+ag t)∧bd (a+ag t)≤ag s) (aK (bu a (bd (a+ag t)) s=t) (aA (.inl a)) (aH (ay a)))) (aA (.inr ()))
def tE:bz→bz→L→gL:=λs t a=>aX (mN s t) a λb=>dc b (λc=>J c) λd=>J (-1:L)
def EC:bz→Bm:=λs=>aj (J ((0,[],0),0)) λu=>aq (tE s [62] 1) λc=>aj (decide (ag (bu 1 c s)>0)&&aZ (cz (bu 1 c s) (bd (ag (bu 1 c s)-1)) 0)==47) λi=>aj (bu 1 c s) λa=>aj (ah i (bu 0 (bd (ag a-1)) a) a) λd=>aj (ag a) λb=>aj (ah i 4 2) λe=>aj (bu 1 b a) λf=>aj (bd (b-1)) λg=>aK (c<0) u (cr (0≤(1:L)∧1≤c∧c≤ag s) (aq (nE a [47]) λh=>aj (ah (ah h 3 e !=3) (aq (EB (ah h f d)) λk=>ah (!k) u (J ((ah h 3 e,ah h f d,0),ay c))) (J ((ah h 3 e,ah h f d,0),ay c))) λj=>au (ah h (decide (0≤(1:L)∧1≤b∧b≤b)) ((!decide (b>0)||decide (0≤g)&&de g a)&&(!i||decide (0≤(0:L)∧0≤g∧g≤b)))) (ah (ah h 3 e==3) (aq (rV (ah h f d)) λl=>ah (!l) u j) j)))
def oM:L→Q jW:=λb=>J (1,np [b],0)
def vY:bz→L→R4:=λs b=>aj (cz [[38,108,116,59,60],[38,103,116,59,62],[38,97,109,112,59,38],[38,108,98,59,123],[38,114,98,59,125]] b []) λu=>aj (bd (ag u-1)) λa=>aK (b<5) (cr (0≤b∧b<5) (cr (0≤(0:L)∧0≤a∧a≤ag u) (aq (nE s (bu 0 a u)) λc=>ah c (iW a u (aq (oM (fE (cz u a 0))) λd=>aA (.inl (a,d)))) (aH (ay b))))) (aA (.inr ()))
def KY:bz→Bm:=λs=>aj (J ((0,[],0),0)) λu=>aj (H s (nat_lit 0) 0) λa=>aj (bT (nat_lit 0) (Y s)) λb=>au (W&&b) (ah (aZ a==60) (aq (EC s) λc=>ah (c.2==0) u (aq (qA c.1.2.1) λe=>aq (Bp e) λf=>ah f u (J c))) (ah (aZ a==38) (aX (vY s) 0 λg=>dc g (λd=>J (d.2,d.1)) λj=>u) (ah (aZ a==123) (aq (Bq s) λh=>J h) (au b (aq (oM (fE a)) λi=>J (i,1))))))
def ED:bz→L→R4:=λs a=>aj (cz [[110,10],[116,9],[115,32],[114,13],[92,92],[123,123]] a []) λu=>aK (a<6) (cr (0≤a∧a<6) (au (W&&(bT bv (Y s)&&(W&&bT (nat_lit 0) (Y u)))) (ah (aZ (H s bv 0)==aZ (H u (nat_lit 0) 0)) (au (bT bv (Y u)) (aq (oM (fE (H u bv 0))) λb=>aA (.inl (2,b)))) (aH (ay a))))) (aA (.inr ()))
def KZ:bz→L→kL:=λs a=>au (!decide (a<ag s)||decide (0≤a)&&(de a s&&(aZ (cz s a 0)==32||decide (0≤a)&&de a s))) (ah (decide (a<ag s)&&(aZ (cz s a 0)==32||aZ (cz s a 0)==9)) (aH (ay a)) (aA a))
def vZ:bz→Bm:=λs=>aj (J ((0,[],0),0)) λu=>aj (H s (nat_lit 0) 0) λa=>aj (bT (nat_lit 0) (Y s)) λb=>au (W&&b) (ah (aZ a==10) u (ah (aZ a==123) (aq (Bq s) λd=>J d) (ah (aZ a==92) (aK (ag s<2) u (aX (ED s) 0 λe=>dc e (λc=>J (c.2,c.1)) λh=>au (W&&bT bv (Y s)) (ah (aZ (H s bv 0) !=10) u (aX (KZ s) 2 λf=>J ((0,[],0),f))))) (au b (aq (oM (fE a)) λg=>J (g,1))))))
def K0:bz→Bm:=λs=>au (W&&bT (nat_lit 0) (Y s)) (ah (aZ (H s (nat_lit 0) 0)==34) (aq (nE s [34,34]) λa=>ah a (aq (oM 34) λb=>J (b,2)) (J ((0,[],0),0))) (ah (aZ (H s (nat_lit 0) 0)==123) (aq (nE s [123,123]) λc=>ah c (aq (oM 123) λd=>J (d,2)) (aq (Bq s) λe=>J e)) (au (bT (nat_lit 0) (Y s)) (aq (oM (fE (H s (nat_lit 0) 0))) λf=>J (f,1)))))
def rW:L→bz→Bm:=λa s=>ah (a==1) (aq (KY s) λb=>J b) (ah (a==2) (aq (vZ s) λc=>J c) (aq (K0 s) λd=>J d))
def nF:L→bz→acj→an4:=λo raw c=>aj (al c.2.1) λu=>aj (gj (bu 0 (bd (ag u-1))) c.2.1) λp=>aj (aA (.inl (O,O,c.2.2.2.1,3))) λt=>aj (aA (.inl (O,O,c.2.2.2.1,7))) λy=>aj (decide (0+Y (al c.2.2.1)=Y (al c.2.2.1))&&(decide (Y (al c.2.2.1)+bv≤nat_lit 68719476736)&&V c.2.2.1==V c.2.2.1)) λz=>aj (decide (0+Y u=Y u)&&(decide (Y u+bv≤nat_lit 68719476736)&&V c.2.1==V c.2.1)) λA=>aj (Y (al p)) λv=>aj (bd (ag u-1)) λf=>aj c.2.2.2 λd=>aj (decide (ag (al c.2.2.1)≥1024)) λw=>aj (H u (0+G f) (0,[],0)).2 λk=>aj (J (al c.2.2.1++[d.2.1])) λl=>aj (V p) λm=>aj (ag raw) λg=>aj (bT (0+G f) (Y u)) λq=>aj (ag u) λr=>aj d.2.2 λh=>aj c.2.1 λi=>aK (d.1<g) (cr (0≤d.1∧d.1≤g∧g≤g) (aq (rW o (bu d.1 g raw)) λx=>aj x.1.1 λa=>aj (bd (d.1+x.2)) λb=>aj x.1.2.1 λj=>aj ((!a==2||A)&&z) λs=>aj (a==2) λe=>ah (x.2==0) (aA (.inl (O,O,d.1,2))) (ah (a==0) (aH (c.1,i,c.2.2.1,b,d.2)) (ah (ah e e (a==4)) (aq (lK c.1 (J [(a,j,ay h)])) λB=>aj (ag (al B)) λn=>ah (decide (n>512)||w) t (au s (aH (B,ah e (J (u++[(a,j,ay h)])) i,l,b,b,ay h)))) (ah (a==3) (aK (f<0) y (cJ f u (au q (aq (qA k.1) λE=>ah (!decide (E=j)) y (au (decide (0≤f∧f<r)&&q&&(decide (0≤(0:L)∧0≤f∧f≤r)&&m==V i)) (aq (lK c.1 (J [(a,j,k.2)])) λC=>aj (ag (al C)) λu=>ah (decide (u>512)||w) t (au ((!e||decide (0+v=v)&&(decide (v+bv≤nat_lit 68719476736)&&m==m))&&z) (aH (C,ah e (J (al p++[(a,j,k.2)])) p,l,b,b,h))))))))) (aq (lK c.1 (J [x.1])) λD=>aj (ag (al D)) λn=>ah (decide (n>512)||w) t (au s (aH (D,ah e (J (u++[x.1])) i,l,b,b,h))))))))) (aA (.inr (c.1,i,c.2.2.1,d.2.1)))
def gW:L→bz→Q KD:=λa raw=>aX (nF a raw) (O,O,O,0,0,0) λc=>dc c (λd=>J d) λb=>aK (ag (al b.2.1)>0) (J (O,O,fW (Y raw),7)) (au (decide (0+Y (al b.2.2.1)=Y (al b.2.2.1))&&(decide (Y (al b.2.2.1)+bv≤nat_lit 68719476736)&&V b.2.2.1==V b.2.2.1)) (J (b.1,J (al b.2.2.1++[b.2.2.2]),0,0)))
def rX:L→dM:=λn=>J (n==1||(n==2||n==3))
def mf:gK→L→Q jL:=λd part=>aq (rX d.1) λb=>ah (!b) (J (O,1)) (au (decide (part<0)||(decide (part≥ag (al d.2))||decide (0≤part∧part<ag (al d.2)))) (ah (decide (part<0)||(decide (part≥ag (al d.2))|| !(aM d.2 part (I,[],[])).1)) (J (O,6)) (cJ part (al d.2) (aq (gW d.1 (aM d.2 part (I,[],[])).2.2) λa=>J (a.1,a.2.2.2)))))
def an6:gK→gf→Bi:=λd a=>aK (a.2<ag (al d.2)) (au (decide (0≤a.2∧a.2<ag (al d.2))&&(!(aM d.2 a.2 (I,[],[])).1||decide (0+Y (al a.1)=Y (al a.1))&&(decide (Y (al a.1)+bv≤nat_lit 68719476736)&&V a.1==V a.1))) (aH (ah (aM d.2 a.2 (I,[],[])).1 (J (al a.1++[a.2])) a.1,ay a.2))) (aA a.1)
def EE:gK→tD:=λd=>aX (an6 d) (O,0) λa=>au (V a==V a) (au (V a==V a) (J a))
def EG:gK→mc→KE:=λd a=>aK (a.2<ag (al d.2)) (au (decide (0≤a.2∧a.2<ag (al d.2))&&c9 (Y a.1+Y (aM d.2 a.2 (I,[],[])).2.2)) (aH (a.1++(aM d.2 a.2 (I,[],[])).2.2,ay a.2))) (aA a.1)
def yJ:gK→pE:=λd=>aX (EG d) ([],0) λa=>J a
def K1:L×bz→Q (L×bz⊕bz):=λb=>aj (np [aby IntKind.u8 (bd (48+b.1.tmod 10))]++b.2) λu=>aj (bd (b.1.tdiv 10)) λa=>au (W&&c9 (bv+Y b.2)) (ah (a==0) (aA u) (aH (a,u)))
def EH:L→pE:=λn=>aX K1 (n,[]) λa=>J a
def yK:L→pE:=λn=>ah (decide (n<0)&&decide (n>(-4611686018427387904:L))) (aq (EH (bd (0-n))) λa=>iw (bv+Y a) (J (45::a))) (aq (EH (oz n 0)) λb=>J b)
def tF:yy→Q (ky×bz×bV×L):=λb=>au (decide (0≤b.2.2∧b.2.2≤ag b.1∧ag b.1≤ag b.1)&&(decide (0+Y (al b.2.1)=Y (al b.2.1))&&(decide (Y (al b.2.1)+bv≤nat_lit 68719476736)&&V b.2.1==V b.2.1))) (J (J (al b.2.1++[(I,[],bu b.2.2 (ag b.1) b.1)]),b.1,(),b.2.2))
def tG:bz→L→L→yy→Q yy:=λkey a to b=>au (decide (0≤b.2.2∧b.2.2≤a∧a≤ag b.1)&&(decide (0≤a∧a≤to∧to≤ag b.1)&&(decide (0+Y (al b.2.1)=Y (al b.2.1))&&(decide (Y (al b.2.1)+jh≤nat_lit 68719476736)&&V b.2.1==V b.2.1)))) (J (b.1,J (al b.2.1++[(I,[],bu b.2.2 a b.1),(W,key,bu a to b.1)]),to))
def yL:bz→L×Bg→Q (L×Bg⊕vT⊕yy):=λdata a=>aj (cr (0≤a.1∧a.1≤ag data∧ag data≤ag data) (aq (EC (bu a.1 (ag data) data)) λb=>aq (qA b.1.2.1) λd=>ah (b.2==0) (aA (.inl (O,a.1,2))) (aq (Bp d) λg=>ah (g&&b.1.1 !=2) (aA (.inl (O,a.1,2))) (aq (Bp d) λh=>ah (!h) (aH (bd (a.1+b.2),a.2)) (iw (jh+Y d) (iw (Y ([60,47]++d)+bv) (aq (tE data ([60,47]++d++[62]) (bd (a.1+b.2))) λc=>cr (0≤bd (a.1+b.2)∧bd (a.1+b.2)≤ag data∧ag data≤ag data) (au (!decide (c≥0)||decide (0≤bd (a.1+b.2)∧bd (a.1+b.2)≤c∧c≤ag data)) (aq (gW 1 (aK (c≥0) (bu (bd (a.1+b.2)) c data) (bu (bd (a.1+b.2)) (ag data) data))) λf=>ah (f.2.2.2 !=0) (aA (.inl (O,bd (bd (a.1+b.2)+f.2.2.1),f.2.2.2))) (aK (c<0) (aA (.inl (O,ag data,2))) (aq (yK (ay a.2.1)) λi=>aq (tG i (bd (a.1+b.2)) c a.2.2) λj=>aH (bd (bd (c+ag d)+3),ay a.2.1,j)))))))))))) λu=>aj (ag data) λe=>aK (a.1<e) (au (decide (0≤a.1)&&de a.1 data) (ah (aZ (cz data a.1 0) !=60) (aH (ay a.1,a.2)) (cr (0≤a.1∧a.1≤e∧e≤e) (aq (nE (bu a.1 e data) [60,33,45,45]) λl=>ah l (aq (tE data [45,45,62] (bd (a.1+4))) λk=>aK (k≥0) (aH (bd (k+3),a.2)) u) u)))) (aA (.inr a.2.2))
def Br:bz→vU:=λdata=>aX (yL data) (0,0,data,O,0) λa=>dc a (λb=>J b) λc=>aq (tF c) λd=>J (d.1,0,0)
def EI:ky→bz→L→jK:=λl key b=>aj (al l) λu=>aj (H u (0+G b) (I,[],[])) λa=>aj (decide (0≤b∧b<ag u)) λc=>aj (bT (0+G b) (Y u)) λd=>aK (b<ag u) (au (c&&(d&&(!a.1||c&&d))) (ah (a.1&&decide (a.2.1=key)) (aA (.inl W)) (aH (ay b)))) (aA (.inr ()))
def K2:ky→bz→dM:=λl key=>aX (EI l key) 0 λa=>dc a (λb=>J b) λc=>J I
def K3:L→dM:=λc=>aj (aK (c≥48) (decide (c≤57)||(c==46||(c==95||c==45))) (c==46||(c==95||c==45))) λu=>J (aK (c≥97) (decide (c≤122)||u) u)
def yM:bz→az→L→kL:=λdata pairs a=>au (!decide (a<ag data)||decide (0≤a)&&de a data) (ah (decide (a<ag data)&&aZ (cz data a 0) !=10) (au (!pairs||decide (0≤a)&&de a data) (aH (ay (ah (pairs&&aZ (cz data a 0)==92) (ay a) a)))) (aA a))
def tH:bz→L→az→gL:=λdata at' pairs=>aX (yM data pairs) at' λa=>J (jw a (ag data))
def yN:bz→L→kL:=λb a=>au (!decide (a<ag b)||decide (0≤a)&&(de a b&&(aZ (cz b a 0)==32||decide (0≤a)&&de a b))) (ah (decide (a<ag b)&&(aZ (cz b a 0)==32||aZ (cz b a 0)==9)) (aH (ay a)) (aA a))
def EJ:bz→Bg→L→kL:=λb c a=>aK (a<ag b) (aK (a<bd (c.1+64)) (iW a b (aq (K3 (fE (cz b a 0))) λd=>ah d (aH (ay a)) (aA a))) (aA a)) (aA a)
def EK:bz→Bg→Q (Bg⊕vT⊕yy):=λa b=>aK (b.1<ag a) (aX (yN a) b.1 λd=>au (decide (d≥ag a)||decide (0≤d)&&(de d a&&(aZ (cz a d 0)==10||decide (0≤d)&&de d a))) (ah (decide (d≥ag a)||(aZ (cz a d 0)==10||aZ (cz a d 0)==35)) (aq (tH a d I) λg=>aH (ay g,b.2)) (aX (EJ a b) b.1 λc=>au (c==b.1||(decide (c≥ag a)||decide (0≤c)&&de c a)) (ah (c==b.1||(decide (c≥ag a)||aZ (cz a c 0) !=61)) (aA (.inl (O,b.1,2))) (cr (0≤b.1∧b.1≤c∧c≤ag a) (au (V b.2.2.1==V b.2.2.1) (aq (K2 b.2.2.1 (bu b.1 c a)) λh=>ah h (aA (.inl (O,b.1,5))) (aq (tH a (ay c) W) λe=>cr (0≤ay c∧ay c≤e∧e≤ag a) (aq (gW 2 (bu (ay c) e a)) λf=>ah (f.2.2.2 !=0) (aA (.inl (O,bd (ay c+f.2.2.1),f.2.2.2))) (aq (tG (bu b.1 c a) (ay c) e b.2) λi=>aH (ay e,i))))))))))) (aA (.inr b.2))
def Bs:bz→vU:=λa=>aX (EK a) (0,a,O,0) λb=>dc b (λc=>J c) λd=>aq (tF d) λe=>J (e.1,0,0)
def K4:bz→L→kL:=λdata a=>au (!decide (a<ag data)||decide (0≤a)&&(de a data&&(aZ (cz data a 0) !=34||(!decide (ay a<ag data)||decide (0≤ay a)&&de (ay a) data)))) (ah (decide (a<ag data)&&(aZ (cz data a 0) !=34||decide (ay a<ag data)&&aZ (cz data (ay a) 0)==34)) (au (decide (0≤a)&&de a data) (aH (ay (ah (aZ (cz data a 0)==34) (ay a) a)))) (aA a))
def K5:bz→L→kL:=λdata c=>aj (aZ (cz data c 0)) λu=>aj (decide (0≤c)) λa=>aj (u !=44) λd=>aj (u !=34) λe=>aj (decide (c<ag data)) λf=>aj (de c data) λb=>au (!f||a&&(b&&(!e||a&&(b&&(!d||a&&b))))) (ah (f&&(e&&(d&&u !=10))) (aH (ay c)) (aA c))
def K6:bz→L→acr:=λdata at'=>aj (decide (at'<ag data)&&aZ (cz data at' 0)==34) λu=>aj (ag data) λb=>au (!decide (at'<b)||decide (0≤at')&&de at' data) (ah u (aX (K4 data) (ay at') λg=>aj (aZ (cz data (ay g) 0)) λd=>aj (ay g) λa=>aj (decide (0≤a)) λc=>aj (d==44) λf=>aK (g≥b) (J (0,W,I)) (au (a==b||c&&(de a data&&(f||c&&de a data))) (J (ah (a==b) a (ah f a a),ah (a==b) u (ah f u u),a==b||(f||d==10))))) (aX (K5 data) at' λe=>aj (aZ (cz data e 0)) λd=>aj (decide (0≤e)) λa=>aj (d==44) λc=>au (e==b||a&&(de e data&&(c||a&&de e data))) (J (ah (e==b) e (ah c e e),ah (e==b) u (ah c u u),e==b||(c||d==10)))))
def EL:bz→Bh→Bh→Q (Bh⊕vT⊕Bh):=λm t g=>aj [116,101,120,116] λu=>aj t.2.2.2.1 λk=>aj g.2.2 λa=>aj (ay g.1) λf=>aj (ag m) λl=>aj O λn=>aj a.2.1 λo=>aj (decide (k>0)) λp=>aj (k==0) λq=>aj g.2.1 λr=>aj (ay a.1) λc=>aq (K6 m g.1) λd=>aj (q&&decide (bu g.1 d.1 m=u)) λu=>aj (decide (d.1≥l)) λh=>aj (bd (d.1-1)) λe=>aj (ah u a.1 r) λb=>aj (h||decide (0≤d.1)&&de d.1 m) λi=>aj (ah u (ay o) o) λu=>aj (h||aZ (cz m d.1 0)==10) λj=>ah (!d.2.2||p&&(decide (a.1≥t.2.1)||a.1==r&& !d.2.1)) (aA (.inl (n,g.1,2))) (au (!q||decide (0≤g.1∧g.1≤d.1∧d.1≤l)) (ah (p&&a.1==b) (cr (0≤f∧f≤e∧e≤l) (aq (gW 3 (bu f e m)) λs=>ah (s.2.2.2 !=0) (aA (.inl (n,bd (f+s.2.2.1),s.2.2.2))) (aq (yK k) λw=>aq (tG w f e a.2.2) λv=>au i (ah j (aA (.inr (d.1,b,c,u,v))) (aH (ay d.1,b,c,u,v)))))) (au i (ah j (aA (.inr (d.1,b,c,u,a.2.2))) (aH (ay d.1,b,c,u,a.2.2))))))
def EM:bz→Bh→Q (Bh⊕vT⊕yy):=λg c=>aj (aA (.inl (O,c.1,2))) λu=>aj O λd=>aj c.2.2.2 λb=>ah (b.1==0||decide (c.1<ag g)) (aX (EL g c) (c.1,c.2.2.1,0,0,b.2) λh=>dc h (λi=>aA (.inl i)) λf=>aj f.2.2 λa=>aj (f.2.1,ay b.1,a.2.2) λe=>ah (b.1==0) (ah (a.2.1==0) (aA (.inl (d,0,6))) (aK (a.2.1>1) (aA (.inl (d,0,5))) (aK (a.1<a.1) u (aH (ay f.1,a.1,e))))) (aK (a.1<c.2.1) u (aH (ay f.1,c.2.1,e)))) (aA (.inr b.2))
def Bt:bz→vU:=λa=>aX (EM a) (0,0,(-1:L),0,a,O,0) λb=>dc b (λc=>J c) λd=>aq (tF d) λe=>J (e.1,0,0)
def K7:L→bz→vU:=λa data=>aK (ag data>65536) (J (O,0,3)) (ah (a==1) (aq (Br data) λb=>J b) (ah (a==2) (aq (Bs data) λc=>J c) (aq (Bt data) λd=>J d)))
def qB:L→bz→Q (gK×eR):=λa data=>aq (rX a) λc=>ah (!c) (J ((0,O),0,1)) (aq (K7 a data) λb=>ah (b.2.2 !=0) (J ((0,O),b.2)) (J ((a,b.1),0,0)))
def Sj:ky→ky→L→jK:=λa b c=>aK (c<ag (al a)) (au (decide (0≤c∧c<ag (al a))&&decide (0≤c∧c<ag (al b))) (ah (!((aM a c (I,[],[])).1==(aM b c (I,[],[])).1&&(decide ((aM a c (I,[],[])).2.1=(aM b c (I,[],[])).2.1)&&(decide ((aM a c (I,[],[])).2.2=(aM b c (I,[],[])).2.2)&&W)))) (aA (.inl I)) (aH (ay c)))) (aA (.inr ()))
def K8:ky→ky→dM:=λa b=>ah (ag (al a) !=ag (al b)) (J I) (aX (Sj a b) 0 λc=>dc c (λd=>J d) λe=>J W)
def Sk:gK→gK→dM:=λa b=>ah (a.1==b.1) (aq (K8 a.2 b.2) λc=>J c) (J I)
def tJ:gK→gL:=λd=>aq (rX d.1) λb=>ah (!b) (J 1) (aq (yJ d) λc=>aq (qB d.1 c) λa=>ah (a.2.2 !=0) (J 11) (aq (Sk a.1 d) λe=>ah (!e) (J 11) (J 0)))
def K9:rT→L→Q (L⊕vV⊕bV):=λbY a=>bJ a (al bY) (aq (tJ (aM bY a (0,O))) λb=>ah (b !=0) (aA (.inl (b,O,O,0))) (aH (ay a))) (aA (.inr ()))
def La:yB→dw→yB→lI→yB→R7:=λc d e b a=>aK (a.1<ag (al b)) (au (decide (0≤a.1∧a.1<ag (al b))&&(decide (0+Y (al a.2.2.1)=Y (al a.2.2.1))&&(decide (Y (al a.2.2.1)+bv≤nat_lit 68719476736)&&V a.2.2.1==V a.2.2.1))) (aH (ay a.1,a.2.1,J (al a.2.2.1++[(a.2.2.2,c.1,aM d e.1 0,aM b a.1 (0,0),0,O,[],0,I)]),ay a.2.2.2))) (aA a.2)
def Lb:rT→tB→yB→dw→yB→R7:=λbY a d c b=>bJ b.1 (al c) (aq (mf (aM bY d.1 (0,O)) (aM c b.1 0)) λe=>aq (KX a e.1) λf=>aX (La d c b f) (0,b.2) λg=>aH (ay b.1,g)) (aA b.2)
def Sl:rT→tB→yB→R7:=λbY a b=>bJ b.1 (al bY) (aq (EE (aM bY b.1 (0,O))) λc=>aX (Lb bY a b c) (0,b.2) λd=>aH (ay b.1,d)) (aA b.2)
def Bu:rT→tB→yA:=λbY a=>aK (ag (al bY)>16) (J ((O,O,0),3)) (aX (K9 bY) 0 λd=>dc d (λc=>au (V c.2.1==V c.2.1) (au (V c.2.2.1==V c.2.2.1) (J (c.2,c.1)))) λe=>au (W&&decide (nat_lit 0+Y (al bY)≤nat_lit 68719476736)) (aX (Sl bY a) (0,[]++al bY,O,1) λb=>aK (ag (al b.2.1)>512) (J ((O,O,0),3)) (au (V b.2.1==V b.2.1) (au (V b.2.1==V b.2.1) (J ((J b.1,b.2),0))))))
def Sm:eX→L→L→rU:=λp id a=>bJ a (al p.2.1) (ah ((aM p.2.1 a (0,0,0,(0,0),0,O,[],0,I)).1==id) (aA (.inl a)) (aH (ay a))) (aA (.inr ()))
def yO:eX→L→gL:=λp id=>aX (Sm p id) 0 λa=>dc a (λb=>J b) λc=>J (-1:L)
def v7:eX→L→lJ:=λp i=>aj (aM p.2.1 i (0,0,0,(0,0),0,O,[],0,I)).2 λu=>cJ i (al p.2.1) (cJ u.1 (al p.1) (aq (mf (aM p.1 u.1 (0,O)) u.2.1) λa=>aq (mM a.1 u.2.2.1.1 u.2.2.1.2) λb=>J b.1))
def Sn:eX→L→kZ→Q eX:=λp i s=>au (W&&decide (nat_lit 0+Y (al p.2.1)≤nat_lit 68719476736)) (au (decide (0≤i∧i<ag ([]++al p.2.1))&&bT (0+G i) (Y ([]++al p.2.1))) (au (W&&decide (nat_lit 0+Y (al p.1)≤nat_lit 68719476736)) (J (J ([]++al p.1),J (([]++al p.2.1).set (0+G i) s),p.2.2))))
def Lc:kZ→dM:=λs=>aj s.2.2.2.2.2.2 λu=>aj (decide (u.1=[])) λc=>aj (c&&decide (u.2.1≥1)) λd=>aj s.2.2.2.2 λa=>aj (u.2.1==0) λb=>ah (a.1==0) (J (ag (al a.2.1)==0&&(c&&b))) (ah (a.1==1) (J (c&&b)) (ah (a.1==2) (aq (rV u.1) λe=>J (e&&b)) (ah (a.1==3) (aq (rV u.1) λf=>J (ah f (b||d) d)) (J I))))
def acu:dw→dw→L→jK:=λa b c=>aK (c<ag (al a)) (au (decide (0≤c∧c<ag (al a))&&decide (0≤c∧c<ag (al b))) (ah (aM a c 0 !=aM b c 0) (aA (.inl I)) (aH (ay c)))) (aA (.inr ()))
def Bv:dw→dw→dM:=λa b=>ah (ag (al a) !=ag (al b)) (J I) (aX (acu a b) 0 λc=>dc c (λd=>J d) λe=>J W)
def an7:lH→lH→L→jK:=λa b c=>aK (c<ag (al a)) (au (decide (0≤c∧c<ag (al a))&&decide (0≤c∧c<ag (al b))) (ah (!decide (aM a c []=aM b c [])) (aA (.inl I)) (aH (ay c)))) (aA (.inr ()))
def Ld:lH→lH→dM:=λa b=>ah (ag (al a) !=ag (al b)) (J I) (aX (an7 a b) 0 λc=>dc c (λd=>J d) λe=>J W)
def Sp:bU→dw×gf→aci:=λf a=>aj (al a.2.1) λu=>aj (decide (0≤a.2.2∧a.2.2<ag (al f))) λh=>aj (aM f a.2.2 (0,[],0)) λc=>aj (bd (ag u-1)) λb=>aj (Y (al a.1)) λi=>aj (Y u) λd=>aj (gj (bu 0 b) a.2.1) λl=>aj (V a.2.1) λj=>aj (ag u) λk=>aj (ay a.2.2) λe=>aj (V a.1) λg=>bJ a.2.2 (al f) (ah (c.1==2) (au (h&&(decide (0+d=d)&&(decide (d+bv≤nat_lit 68719476736)&&j==j))) (aH (a.1,J (u++[c.2.2]),e))) (ah (c.1==3) (ah (k==0) (au (h&&(decide (0+i=i)&&(decide (i+bv≤nat_lit 68719476736)&&g==g))) (aH (J (al a.1++[c.2.2]),a.2.1,e))) (au (decide (0≤b∧b<k)&&(bT (0+G b) d&&h)) (ah (H u (0+G b) 0==c.2.2) (au (decide (0≤(0:L)∧0≤b∧b≤k)&&V l==j) (aH (a.1,l,e))) (aA (.inl (O,O,I)))))) (aH (a.1,a.2.1,e)))) (aA (.inr (a.1,a.2.1)))
def EN:bU→acp:=λf=>aX (Sp f) (O,O,0) λb=>dc b (λc=>J c) λa=>au (V a.1==V a.1&&V a.2==V a.2) (au (V a.1==V a.1) (au (V a.2==V a.2) (J (a.1,a.2,W))))
def EO:lH→bz→L→kL:=λl s a=>au (!decide (a<ag (al l))||decide (0≤a∧a<ag (al l))) (ah (decide (a<ag (al l))&&(Op.bytesLess (aM l a []) s||decide (aM l a []=s))) (aH (ay a)) (aA a))
def Le:lH→bz→Q lH:=λl s=>aj (ag (al l)) λu=>aj [s] λe=>aX (EO l s) 0 λa=>aj (eo (al (gj (bu 0 a) l))) λf=>aj (al f) λb=>aj (al (gj (bu a u) l)) λg=>aj (Y (al (gj (bu 0 a) l))) λi=>aj (Y (b++e)) λc=>aj (Y b) λd=>aj (V f) λh=>au (decide (0≤(0:L)∧0≤a∧a≤u)&&(decide (i≤nat_lit 68719476736)&&(decide (0+d=d)&&(decide (d+bv≤nat_lit 68719476736)&&h==h)))) (au (decide (0≤a∧a≤u∧u≤u)&&(decide (0+c=c)&&decide (c+Y g≤nat_lit 68719476736))) (J (J (b++e++g))))
def EP:bU→lH×L→Q (lH×L⊕lH):=λf a=>bJ a.2 (al f) (ah ((aM f a.2 (0,[],0)).1==5) (cJ a.2 (al f) (aq (Le a.1 (aM f a.2 (0,[],0)).2.1) λb=>aH (b,ay a.2))) (aH (a.1,ay a.2))) (aA a.1)
def ER:bU→Q lH:=λf=>aX (EP f) (O,0) λa=>J a
def pF:jW→dM:=λx=>J (x.1==2||(x.1==3||x.1==4))
def ES:bU→jL→yz:=λf a=>bJ a.2 (al f) (aq (pF (aM f a.2 (0,[],0))) λb=>au (!b||decide (0≤a.2∧a.2<ag (al f))&&(decide (0+Y (al a.1)=Y (al a.1))&&(decide (Y (al a.1)+bv≤nat_lit 68719476736)&&V a.1==V a.1))) (aH (ah b (J (al a.1++[aM f a.2 (0,[],0)])) a.1,ay a.2))) (aA a.1)
def ET:bU→lJ:=λf=>aX (ES f) (O,0) λa=>au (V a==V a) (au (V a==V a) (J a))
def EU:bU→jW→eR→vS:=λf x a=>bJ a.2 (al f) (aH (ah ((aM f a.2 (0,[],0)).1==x.1&&(decide ((aM f a.2 (0,[],0)).2.1=x.2.1)&&((aM f a.2 (0,[],0)).2.2==x.2.2&&W))) (ay a.1) a.1,ay a.2)) (aA a.1)
def EV:bU→jW→gL:=λf x=>aX (EU f x) (0,0) λa=>J a
def EW:bU→bU→L→jK:=λa c b=>bJ b (al a) (aq (EV a (aM a b (0,[],0))) λd=>cJ b (al a) (aq (EV c (aM a b (0,[],0))) λe=>ah (d !=e) (aA (.inl I)) (aH (ay b)))) (aA (.inr ()))
def yP:bU→bU→dM:=λsource target=>aq (EN source) λa=>aq (EN target) λb=>ah (!a.2.2) (J I) (ah (!b.2.2) (J I) (aq (Bv a.1 b.1) λg=>ah (!g) (J I) (aq (Bv a.2.1 b.2.1) λh=>ah (!h) (J I) (aq (ER source) λi=>aq (ER target) λj=>aq (Ld i j) λk=>ah (!k) (J I) (aq (ET source) λe=>aq (ET target) λf=>ah (ag (al e) !=ag (al f)) (J I) (aX (EW e f) 0 λc=>dc c (λd=>J d) λl=>J W))))))
def yQ:bU→jW→L→rU:=λa x d=>aj (aM a d (0,[],0)) λu=>aj (aA (.inl 7)) λb=>aj (aH (ay d)) λc=>bJ d (al a) (aq (pF u) λe=>ah (!e||u.2.2 !=x.2.2) c (ah (x.1 !=3) b (ah (u.1 !=2) b (aq (qA u.2.1) λf=>ah (!decide (f=x.2.1)) b c)))) (aA (.inr ()))
def acv:bU→jW→L→rU:=λa x d=>aj (aM a d (0,[],0)) λu=>aj (aA (.inl 7)) λb=>aj (aH (ay d)) λc=>bJ d (al a) (aq (pF u) λe=>ah (!e||u.2.2 !=x.2.2) c (ah (x.1 !=3) b (ah (u.1 !=2) b (aq (qA u.2.1) λf=>ah (!decide (f=x.2.1)) b c)))) (aA (.inr ()))
def Lf:bU→jW→gL:=λa x=>aj (ag (al a)) λu=>aj (decide (x.2.2<1)||decide (x.2.2>999)) λd=>aj (x.2.2 !=0) λb=>aj (decide (x.2.1=[])) λe=>aj (bd (u-1)) λc=>aj (decide (u>0)) λf=>ah (x.1==1) (au (e||(b||(!f||decide (0≤c∧c<u)))) (ah (e||(b||f&&(aM a c (0,[],0)).1==1)) (J 1) (J 0))) (ah (x.1==5) (aq (rV x.2.1) λg=>ah (!g||b) (J 1) (J 0)) (ah (ah (x.1==2) (x.1==2) (x.1==4)) (aq (EB x.2.1) λh=>ah (!h||d) (J 1) (aX (yQ a x) 0 λi=>dc i (λj=>J j) λn=>J 0)) (ah (x.1==3) (aq (rV x.2.1) λk=>ah (!k||d) (J 1) (aX (acv a x) 0 λl=>dc l (λm=>J m) λo=>J 0)) (J 1))))
def Lg:bU→L→rU:=λf a=>aK (a<ag (al f)) (cr (0≤(0:L)∧0≤a∧a≤ag (al f)) (cJ a (al f) (aq (Lf (gj (bu 0 a) f) (aM f a (0,[],0))) λb=>ah (b !=0) (aA (.inl b)) (aH (ay a))))) (aA (.inr ()))
def Bw:bU→gL:=λf=>aK (ag (al f)>512) (J 3) (aq (nD f) λa=>aK (a>1024) (J 3) (aX (Lg f) 0 λb=>dc b (λc=>J c) λd=>J 0))
def Bx:dw→L→L→jK:=λl n a=>aK (a<ag (al l)) (au (decide (0≤a∧a<ag (al l))&&bT (0+G a) (Y (al l))) (ah (H (al l) (0+G a) 0==n) (aA (.inl W)) (aH (ay a)))) (aA (.inr ()))
def Lh:dw→L→dM:=λl n=>aX (Bx l n) 0 λa=>dc a (λb=>J b) λc=>J I
def EX:bU→gf→Bi:=λf a=>aj (al f) λu=>aj (aM f a.2 (0,[],0)) λc=>aj (Y (al a.1)) λd=>aj (V a.1) λb=>bJ a.2 u (aq (pF c) λg=>ah g (cJ a.2 u (au (b==b) (aq (Lh a.1 c.2.2) λe=>au (!!e||decide (0≤a.2∧a.2<ag u)&&(decide (0+d=d)&&(decide (d+bv≤nat_lit 68719476736)&&b==b))) (aH (ah (!e) (J (al a.1++[c.2.2])) a.1,ay a.2))))) (aH (a.1,ay a.2))) (aA a.1)
def Bz:bU→tD:=λf=>aX (EX f) (O,0) λa=>au (V a==V a) (au (V a==V a) (J a))
def EY:bU→dw→dw→jL→L→Q (L⊕M jW):=λf a to b c=>au (decide (c<ag (al a))&&decide (c<ag (al to))) (cJ c (al a) (ah (aM a c 0==(aM f b.2 (0,[],0)).2.2) (au (decide (0≤c∧c<ag (al to))&&(decide (0+Y (al b.1)=Y (al b.1))&&(decide (Y (al b.1)+bv≤nat_lit 68719476736)&&V b.1==V b.1))) (aA (al b.1++[((aM f b.2 (0,[],0)).1,(aM f b.2 (0,[],0)).2.1,aM to c 0)]))) (aH (ay c))))
def EZ:bU→dw→dw→jL→yz:=λf b to a=>bJ a.2 (al f) (aq (pF (aM f a.2 (0,[],0))) λc=>ah (!c) (au (decide (0+Y (al a.1)=Y (al a.1))&&(decide (Y (al a.1)+bv≤nat_lit 68719476736)&&V a.1==V a.1)) (aH (J (al a.1++[aM f a.2 (0,[],0)]),ay a.2))) (aX (EY f b to a) 0 λd=>aH (J d,ay a.2))) (aA a.1)
def Li:bU→dw→dw→lJ:=λf a to=>aX (EZ f a to) (O,0) λb=>au (V b==V b) (aq (Ez b) λc=>J c)
def E1:L→gf→Bi:=λn a=>aK (a.2≤n) (au (decide (0+Y (al a.1)=Y (al a.1))&&(decide (Y (al a.1)+bv≤nat_lit 68719476736)&&V a.1==V a.1)) (aH (J (al a.1++[a.2]),ay a.2))) (aA a.1)
def E2:L→tD:=λn=>aX (E1 n) (O,1) λa=>au (V a==V a) (au (V a==V a) (J a))
def Lj:bU→lJ:=λf=>aq (Bz f) λa=>aq (E2 (fW (Y (al a)))) λb=>aq (Li f a b) λc=>J c
def Sq:bU→bU→L→jK:=λa b c=>aK (c<ag (al a)) (au (decide (0≤c∧c<ag (al a))&&decide (0≤c∧c<ag (al b))) (ah (!((aM a c (0,[],0)).1==(aM b c (0,[],0)).1&&(decide ((aM a c (0,[],0)).2.1=(aM b c (0,[],0)).2.1)&&((aM a c (0,[],0)).2.2==(aM b c (0,[],0)).2.2&&W)))) (aA (.inl I)) (aH (ay c)))) (aA (.inr ()))
def E3:bU→bU→dM:=λa b=>ah (ag (al a) !=ag (al b)) (J I) (aX (Sq a b) 0 λc=>dc c (λd=>J d) λe=>J W)
def BA:L→L→pE:=λa c=>ah (a==1) (ah (c==60) (J [38,108,116,59]) (ah (c==38) (J [38,97,109,112,59]) (ah (c==123) (J [38,108,98,59]) (J [kC (G c)])))) (ah (a==2) (ah (c==10) (J [92,110]) (ah (c==9) (J [92,116]) (ah (c==13) (J [92,114]) (ah (ah (c==92) (c==92) (c==123)) (iw (bv+bv) (J [92,kC (G c)])) (J [kC (G c)]))))) (ah (c==34||c==123) (iw (bv+bv) (J [kC (G c),kC (G c)])) (J [kC (G c)])))
def acw:L→bU→mc→mc→KE:=λa f d b=>aj (aM f d.2 (0,[],0)).2.1 λu=>aK (b.2<ag u) (iW b.2 u (aq (BA a (fE (cz u b.2 0))) λc=>iw (Y b.1+Y c) (aH (b.1++c,ay b.2)))) (aA b.1)
def BB:L→bU→mc→mc→KE:=λa f d b=>aj (aM f d.2 (0,[],0)).2.1 λu=>aK (b.2<ag u) (iW b.2 u (aq (BA a (fE (cz u b.2 0))) λc=>iw (Y b.1+Y c) (aH (b.1++c,ay b.2)))) (aA b.1)
def Lk:L→bU→mc→Q (mc⊕mc⊕bz):=λa f b=>aj (aM f b.2 (0,[],0)) λu=>aj (au (ah (u.1==2) (c9 (bv+Y u.2.1)&&(c9 (Y ([60]++u.2.1)+bv)&&c9 (Y b.1+Y ([60]++u.2.1++[62])))) (ah (u.1==3) (c9 (jh+Y u.2.1)&&(c9 (Y ([60,47]++u.2.1)+bv)&&c9 (Y b.1+Y ([60,47]++u.2.1++[62])))) (ah (u.1==4) (c9 (bv+Y u.2.1)&&(c9 (Y ([60]++u.2.1)+jh)&&c9 (Y b.1+Y ([60]++u.2.1++[47,62])))) (!u.1==5||c9 (bv+Y u.2.1)&&(c9 (Y ([123]++u.2.1)+bv)&&c9 (Y b.1+Y ([123]++u.2.1++[125]))))))) (aH (ah (u.1==2) (b.1++([60]++u.2.1++[62])) (ah (u.1==3) (b.1++([60,47]++u.2.1++[62])) (ah (u.1==4) (b.1++([60]++u.2.1++[47,62])) (ah (u.1==5) (b.1++([123]++u.2.1++[125])) b.1))),ay b.2))) λc=>aj (aA (.inl ([],7))) λd=>bJ b.2 (al f) (aq (pF u) λe=>ah e (ah (a !=1) d (aq (qA u.2.1) λg=>aq (Bp g) λh=>ah h d (ah (u.1==1) (aX (acw a f b) (b.1,0) λi=>aH (i,ay b.2)) c))) (ah (u.1==1) (aX (BB a f b) (b.1,0) λj=>aH (j,ay b.2)) c)) (aA (.inr b.1))
def BD:L→bU→pD:=λa f=>aq (Bw f) λb=>ah (b !=0) (J ([],b)) (aX (Lk a f) ([],0) λc=>dc c (λd=>J d) λe=>J (e,0))
def E4:lI→jL→eR→Q (eR⊕yC⊕bV):=λc d b=>aj (aA (.inl (1,0,O))) λu=>aj (aM c b.2 (0,0)) λa=>bJ b.2 (al c) (aK (a.1<b.1) u (aK (a.2<a.1) u (aq (nD d.1) λe=>aK (a.2>e) u (aH (a.2,ay b.2))))) (aA (.inr ()))
def E5:gK→L→lI→pC→jL→KD→L×bz×L×jL→an5:=λl o m n p k c=>aj (aM m c.2.2.2.2 (0,0)) λu=>aj (aM l.2 o (I,[],[])).2.2 λf=>aj (aM k.2.1 u.1 0) λd=>aj (aM n c.2.2.2.2 O) λg=>aj c.2.2 λa=>aj (al n) λh=>aj (al k.2.1) λi=>aj (bu a.1 d f) λe=>aj a.2.2 λb=>bJ b (al m) (cJ b h (aq (BD l.1 g) λj=>ah (j.2 !=0) (aA (.inl (j.2,0,O))) (au (decide (0≤u.1∧u.1<ag i)&&(decide (0≤a.1∧a.1≤d∧d≤ag f)&&(c9 (Y e+Y j.1)&&c9 (Y c.2.1+Y (e++j.1))))) (cJ u.2 i (aq (mM p.1 c.1 u.1) λq=>aq (lK a.2.1 q.1) λr=>cJ b h (aq (lK r g) λs=>aH (u.2,c.2.1++(e++j.1),aM k.2.1 u.2 0,s,ay b))))))) (aA (.inr (c.1,c.2.1,a.1,a.2.1)))
def BE:gK→L→lI→pC→KF:=λc d n x=>aj (aM c.2 d (I,[],[])).2.2 λu=>aj (al (eo (al c.2))) λe=>aj (0,O) λa=>aj (al c.2) λf=>aj (V (eo f)) λl=>aj (ag u) λb=>aj (H e (0+G d) (I,[],[])) λm=>aq (tJ c) λy=>ah (y !=0) (J (a,y)) (aq (mf c d) λj=>ah (j.2 !=0) (J (a,j.2)) (cJ d f (aq (gW c.1 u) λz=>ah (ag (al n) !=ag (al x)) (J (a,1)) (aX (E4 n j) (0,0) λA=>dc A (λo=>aj (V o.2.2) λu=>au (u==u) (J (o.2,o.1))) λC=>aX (E5 c d n x j z) (0,[],0,O,0) λB=>dc B (λp=>aj (V p.2.2) λu=>au (u==u) (J (p.2,p.1))) λk=>aj (k.2.1++bu k.2.2.1 b u) λg=>aj k.2.2.1 λh=>au (decide (0≤h∧h≤b∧b≤b)&&c9 (Y k.2.1+Y (bu h b u))) (aq (nD j.1) λq=>aq (mM j.1 k.1 q) λr=>aq (lK k.2.2.2 r.1) λs=>aq (gW c.1 g) λi=>ah (i.2.2.2 !=0) (J (a,i.2.2.2)) (aq (Lj s) λt=>aq (E3 i.1 t) λv=>ah (!v) (J (a,11)) (aq (yJ c) λw=>aj (bd (bd (ag w-b)+ag g)) λu=>aK (u>65536) (J (a,3)) (au (decide (Y f≤nat_lit 68719476736)&&l==l) (au (decide (0≤d∧d<ag e)&&bT (0+G d) (Y e)) (J ((c.1,J (e.set (0+G d) (m.1,m.2.1,g))),0)))))))))))
def BF:gK→bU→kZ→gL:=λd source s=>aq (Lc s) λb=>ah (!b) (J 8) (aq (Bw s.2.2.2.2.2.1) λa=>ah (a !=0) (J a) (ah (s.2.2.2.2.1 !=3) (J 0) (aq (yP source s.2.2.2.2.2.1) λc=>ah (!c) (J 7) (aq (BE d s.2.2.1 (J [s.2.2.2.1]) (J [s.2.2.2.2.2.1])) λe=>J e.2))))
def wb:eX→kZ→yA:=λp s=>aj (0,0,0,(0,0),0,O,[],0,I) λu=>aj (O,O,0) λa=>aj (al s.2.2.2.2.2.1) λb=>aj (s.2.2.2.2.1,J ([]++b),s.2.2.2.2.2.2) λf=>aj p.2.1 λc=>aj (nat_lit 0+Y b) λg=>aq (yO p s.1) λd=>aj (aM c d u) λu=>aj (u.1,u.2.1,u.2.2.1,u.2.2.2.1,f) λe=>aK (d<0) (J (a,6)) (cJ d (al c) (au (W&&decide (g≤nat_lit 68719476736)) (cJ u.2.1 (al p.1) (aq (v7 p d) λi=>aq (BF (aM p.1 u.2.1 (0,O)) i e) λh=>ah (h !=0) (J (a,h)) (aq (Sn p d e) λj=>J (j,0))))))
def E6:mL→mL→L→jK:=λa b c=>aj (ag (al a)) λu=>aj (aM a c (0,0,0)) λd=>aj (aM b c (0,0,0)) λe=>aj (ag (al b)) λf=>aK (c<u) (au (decide (0≤c∧c<u)&&decide (0≤c∧c<f)) (ah (!(d.1==e.1&&(d.2.1==e.2.1&&(d.2.2==e.2.2&&W)))) (aA (.inl I)) (aH (ay c)))) (aA (.inr ()))
def E7:mL→mL→dM:=λa b=>ah (ag (al a) !=ag (al b)) (J I) (aX (E6 a b) 0 λc=>dc c (λd=>J d) λe=>J W)
def tK:gK→pE:=λd=>if(gN (Y (X d.2 [])) 4611686018427387903&&gN (Y ((X d.2 []).flatMap λq=>q.2.2)) 140737488355328)=W then J ((X d.2 []).flatMap λq=>q.2.2)else O
def yR:L→dM:=λa=>J (a==1||(a==2||a==3))
def yS:bz→Q qx:=λdata=>J (data,0,O)
def yT:qx→Q (ky×bz×L×bV):=λp=>au (decide (0≤p.2.1∧p.2.1≤ag p.1∧ag p.1≤ag p.1)&&(decide (0+Y (al p.2.2)=Y (al p.2.2))&&(decide (Y (al p.2.2)+bv≤nat_lit 68719476736)&&V p.2.2==V p.2.2))) (J (J (al p.2.2++[(I,[],bu p.2.1 (ag p.1) p.1)]),p.1,p.2.1,()))
def yU:L→L→bz→qx→Q qx:=λa to key p=>au (decide (0≤p.2.1∧p.2.1≤a∧a≤ag p.1)&&(decide (0≤a∧a≤to∧to≤ag p.1)&&(decide (0+Y (al p.2.2)=Y (al p.2.2))&&(decide (Y (al p.2.2)+jh≤nat_lit 68719476736)&&V p.2.2==V p.2.2)))) (J (p.1,to,J (al p.2.2++[(I,[],bu p.2.1 a p.1),(W,key,bu a to p.1)])))
def E8:lb→Q lb:=λb=>aj (Y (al b.1)) λu=>aj (ag (al b.2.1)) λa=>aj (V b.1) λd=>aj b.2.2 λc=>aj (V b.2.1) λe=>au (!decide (a>0)||e==e&&(decide (0+u=u)&&(decide (u+bv≤nat_lit 68719476736)&&d==d))) (J (aK (a>0) (J (al b.1++[(1,np (al b.2.1),0)])) b.1,aK (a>0) O b.2.1,aK (a>0) c.1 c.1,aK (a>0) c.2.1 c.2.1,aK (a>0) c.2.2 c.2.2))
def Ll:lb→Q (bU×lb):=λb=>aq (E8 b) λa=>au (V a.1==V a.1) (J (a.1,a))
def E9:az→lb→dM:=λtext b=>J (decide (ah (!text||ag (al b.2.1)==0) (ay (aK (ag (al b.2.1)>0) (ay (ag (al b.1))) (ag (al b.1)))) (aK (ag (al b.2.1)>0) (ay (ag (al b.1))) (ag (al b.1)))>512)||decide (ay (ag (al b.2.2.1))>1024))
def wd:L→L→lb→Q (az×lb):=λc offset b=>aj (Y (al b.2.2.1)) λu=>aj (Y (al b.2.1)) λa=>aj (V b.2.2.1) λd=>aj (V b.2.1) λe=>aq (E9 W b) λf=>ah f (J (I,b)) (au (decide (0+a=a)&&(decide (a+bv≤nat_lit 68719476736)&&e==e)) (au (decide (0+u=u)&&(decide (u+bv≤nat_lit 68719476736)&&d==d)) (J (W,b.1,J (al b.2.1++[c]),J (al b.2.2.1++[offset]),b.2.2.2))))
def rY:jW→L→lb→Q (az×lb):=λx offset b=>aq (E9 I b) λc=>ah c (J (I,b)) (aq (E8 b) λa=>au (decide (0+Y (al a.1)=Y (al a.1))&&(decide (Y (al a.1)+bv≤nat_lit 68719476736)&&V a.1==V a.1)) (au (decide (0+Y (al a.2.2.1)=Y (al a.2.2.1))&&(decide (Y (al a.2.2.1)+bv≤nat_lit 68719476736)&&V a.2.2.1==V a.2.2.1)) (J (W,J (al a.1++[x]),a.2.1,J (al a.2.2.1++[offset]),a.2.2.2))))
def Lm:bz→L→jK:=λs a=>aj (aZ (cz s a 0)) λu=>aj (aK (u≥48) (!decide (u≤57)&& !u==45) !u==45) λb=>aK (a<ag s) (au (decide (0≤a)&&de a s) (ah (aK (u≥97) (!decide (u≤122)&&b) b) (aA (.inl I)) (aH (ay a)))) (aA (.inr ()))
def pG:bz→dM:=λs=>au (decide (ag s<1)||(decide (ag s>24)||true&&(bT (nat_lit 0) (Y s)&&(decide (aZ (H s (nat_lit 0) 0)<97)||true&&bT (nat_lit 0) (Y s))))) (ah (decide (ag s<1)||(decide (ag s>24)||(decide (aZ (H s (nat_lit 0) 0)<97)||decide (aZ (H s (nat_lit 0) 0)>122)))) (J I) (aX (Lm s) 1 λa=>dc a (λb=>J b) λc=>J W))
def BG:bz→dM:=λs=>ah (aK (s=[112]) (decide (s=[112])) (aK (s=[104]) (decide (s=[104])) (aK (s=[108,105]) (decide (s=[108,105])) (aK (s=[116,100]) (decide (s=[116,100])) (decide (s=[116,105,116,108,101])))))) (J W) (J I)
def mO:az→gL:=λok=>ah (!ok) (J 3) (J 0)
def Fa:bz→L→gL:=λs c=>J (fm s (G c).toUInt8)
def Fb:bz→L→gL:=λs c=>aq (Fa s c) λa=>J a
def BH:bz→bz→gL:=λb a=>ah (ag a==0||decide (a=b)) (J 0) (ah (ag a==1) (au (bT (nat_lit 0) (Y a)) (aq (Fb b (fE (H a (nat_lit 0) 0))) λc=>J c)) (cr (ag a≥ag b) (J (-1:L))))
def Ln:bz→bz→acq:=λs sep=>aq (BH s sep) λa=>aK (a≥0) (au (decide (0≤(0:L)∧0≤a∧a≤ag s)&&decide (0≤bd (a+ag sep)∧bd (a+ag sep)≤ag s∧ag s≤ag s)) (J (bu 0 a s,bu (bd (a+ag sep)) (ag s) s,W))) (J (s,[],I))
def tL:bz→bz→acq:=λs sep=>aq (Ln s sep) λa=>J a
def wh:bz→pE:=λa=>aq (tL a [32]) λb=>J b.1
def rZ:jW→L→lb→Q (L×lb):=λx offset r=>aj (al r.2.2.2.1) λu=>aj (gj (bu 0 (bd (ag u-1))) r.2.2.2.1) λg=>aj (Y (al g)) λm=>aj (bd (ag u-1)) λd=>aj (J (7,r)) λq=>aj (H u (0+G d) (0,[],0)).2 λn=>aj (V r.2.2.2.1) λo=>aj (V g) λp=>aj (x.1==2) λb=>aj (Y u) λh=>aj (ah b r.1 r.1) λi=>aj r.2.2 λa=>aj (ah b r.2.1 r.2.1) λj=>aj (ah b a.1 a.1) λk=>aj (ag u) λf=>aj (ay a.2.2) λe=>aj x.2.1 λc=>aj (bT (0+G d) h) λl=>ah (x.1==3) (ah (f==0) q (cJ d u (au l (aq (wh n.1) λv=>ah (!decide (v=c)) q (au (decide (0≤d∧d<f)&&l&&(decide (0≤(0:L)∧0≤d∧d≤f)&&p==o)) (au (!b||decide (0+m=m)&&(decide (m+bv≤nat_lit 68719476736)&&p==p)) (aq (rY (x.1,c,n.2) offset (i,j,k,ah b (J (al g++[(x.1,c,n.2)])) g,ah b a.2.2 a.2.2)) λs=>aq (mO s.1) λw=>J (w,s.2)))))))) (au (!b||decide (0+h=h)&&(decide (h+bv≤nat_lit 68719476736)&&o==o)) (aq (rY (x.1,c,e) offset (i,j,k,ah b (J (u++[(x.1,c,e)])) a.2.1,ah b e e)) λt=>aq (mO t.1) λy=>J (y,t.2)))
def Sr:bz→bz→dM:=λs a=>au (!decide (ag s≥ag a)||decide (0≤(0:L)∧0≤ag a∧ag a≤ag s)) (J (decide (ag s≥ag a)&&decide (bu 0 (ag a) s=a)))
def pH:bz→bz→dM:=λs a=>aq (Sr s a) λb=>J b
def Lp:bz→Q (L×tz):=λs=>aq (pH s [38,108,116,59]) λa=>ah a (J (60,4,W)) (aq (pH s [38,103,116,59]) λb=>ah b (J (62,4,W)) (aq (pH s [38,97,109,112,59]) λc=>ah c (J (38,5,W)) (aq (pH s [38,108,98,59]) λd=>ah d (J (123,4,W)) (aq (pH s [38,114,98,59]) λe=>ah e (J (125,4,W)) (J (0,0,I))))))
def oO:bz→L→gL:=λs c=>aq (Fb s c) λa=>J a
def Fc:bz→L→jK:=λs a=>aK (a<ag s) (iW a s (aK (aZ (cz s a 0)<32) (aA (.inl I)) (iW a s (aK (aZ (cz s a 0)>126) (aA (.inl I)) (iW a s (aq (oO [60,62,123,125] (fE (cz s a 0))) λb=>aK (b≥0) (aA (.inl I)) (aH (ay a)))))))) (aA (.inr ()))
def Fe:bz→dM:=λs=>au (decide (ag s>64)||(ag s==0||decide (0≤bd (ag s-1))&&de (bd (ag s-1)) s)) (ah (decide (ag s>64)||(ag s==0||aZ (cz s (bd (ag s-1)) 0)==47)) (J I) (aX (Fc s) 0 λb=>dc b (λc=>J c) λe=>aq (tL s [32]) λa=>aq (pG a.1) λd=>J (d&&(!a.2.2||decide (ag a.2.1>0)))))
def Ss:bz→bz→dM:=λs suffix=>au (!decide (ag s≥ag suffix)||decide (0≤bd (ag s-ag suffix)∧bd (ag s-ag suffix)≤ag s∧ag s≤ag s)) (J (decide (ag s≥ag suffix)&&decide (bu (bd (ag s-ag suffix)) (ag s) s=suffix)))
def Lq:bz→bz→dM:=λs suffix=>aq (Ss s suffix) λa=>J a
def Ff:bz→Q (jW×tz):=λs=>aq (oO s 62) λb=>aj (ag (bu 1 b s)) λu=>aj (bu 1 b s) λa=>aj (bd (u-1)) λc=>aK (b<1) (J ((0,[],0),0,I)) (cr (0≤(1:L)∧1≤b∧b≤ag s) (aq (pH a [47]) λf=>ah f (cr (0≤(1:L)∧1≤u∧u≤u) (aq (pG (bu 1 u a)) λg=>J ((3,bu 1 u a,0),ay b,g))) (aq (Lq a [47]) λe=>aj (ah e (bu 0 c a) a) λd=>au (!e||decide (0≤(0:L)∧0≤c∧c≤u)) (aq (Fe d) λh=>J ((ah e 4 2,d,0),ay b,h)))))
def nG:bz→L→lb→Q (L×L×lb):=λraw at' r=>aj (J (0,2,r)) λu=>aj (bu at' (ag raw) raw) λa=>aj (aZ (H a (nat_lit 0) 0)) λb=>aj (ag raw) λd=>aj (ag a) λe=>aj (bT (nat_lit 0) (Y a)) λf=>cr (0≤at'∧at'≤d∧d≤d) (au (W&&f) (ah (b==60) (aq (Ff a) λi=>ah (!i.2.2) u (aq (wh i.1.2.1) λn=>aq (BG n) λo=>ah o u (aq (rZ i.1 at' r) λp=>J (i.2.1,p)))) (ah (b==38) (aq (Lp a) λj=>ah (!j.2.2) u (aq (wd j.1 at' r) λm=>aq (mO m.1) λq=>J (j.2.1,q,m.2))) (ah (b==123) (aq (oO a 125) λc=>aK (c<0) u (cr (0≤(1:L)∧1≤c∧c≤e) (aq (pG (bu 1 c a)) λs=>ah (!s) u (cr (0≤(1:L)∧1≤c∧c≤e) (aq (rY (5,bu 1 c a,0) at' r) λg=>aq (mO g.1) λk=>J (ay c,k,g.2)))))) (au f (aq (wd b at' r) λh=>aq (mO h.1) λl=>J (1,l,h.2)))))))
def Lr:bz→L×lb→Q (L×lb⊕bV×eR⊕lb):=λraw a=>aK (a.1<ag raw) (aq (nG raw a.1 a.2) λb=>ah (b.2.1 !=0) (aA (.inl ((),a.1,b.2.1))) (aH (bd (a.1+b.1),b.2.2))) (aA (.inr a.2))
def Ls:bz→Q (L×L×az×lb):=λraw=>aX (Lr raw) (0,O,O,O,O,0) λc=>dc c (λa=>J (a.2.1,a.2.2,I,O,O,O,O,0)) λb=>aK (ag (al b.2.2.2.1)>0) (J (fW (Y raw),7,I,O,O,O,O,0)) (J (0,0,W,b))
def BJ:bz→Q qz:=λraw=>aq (Ls raw) λa=>ah a.2.2.1 (ah (a.2.1 !=0) (J (O,a.1,a.2.1)) (aq (Ll a.2.2.2) λb=>J (b.1,0,0))) (au (a.2.1 !=0) (J (O,a.1,a.2.1)))
def strings_Index:bz→bz→gL:=λs sub=>if decide (Y s<4294967281)=W then J (w7 s sub)else O
def Lt:bz→Q (L×bz×az):=λs=>au (W&&bT (nat_lit 0) (Y s)) (ah (aZ (H s (nat_lit 0) 0) !=60) (J (1,[],W)) (aq (pH s [60,33,45,45]) λc=>ah c (cr (0≤(4:L)∧4≤ag s∧ag s≤ag s) (aq (strings_Index (bu 4 (ag s) s) [45,45,62]) λb=>J (bd (b+7),[],decide (b≥0)))) (aq (Ff s) λa=>ah (!a.2.2) (J (a.2.1,[],a.2.2)) (aq (wh a.1.2.1) λd=>aq (BG d) λe=>ah (!e) (J (a.2.1,[],a.2.2)) (aq (wh a.1.2.1) λf=>J (a.2.1,f,a.1.1==2))))))
def strconv_Itoa:L→pE:=λn=>if(decide (-9223372036854775808≤n)&&decide (n≤9223372036854775807))=W then J (Lib.itoa n)else O
def Fg:bz→KA→Q (KA⊕vT⊕qx):=λdata b=>aj (ag data) λu=>aj O λe=>aK (b.1<u) (cr (0≤b.1∧b.1≤u∧u≤u) (aq (Lt (bu b.1 u data)) λg=>aj (bd (b.1+g.1)) λa=>aj ([60,47]++g.2.1) λf=>aj g.2.1 λd=>ah (!g.2.2) (aA (.inl (e,b.1,2))) (aK (d=[]) (aH (a,b.2)) (cr (0≤a∧a≤u∧u≤u) (iw (jh+Y d) (iw (Y f+bv) (aq (strings_Index (bu a u data) (60::47::(d++[62]))) λh=>aj (aK (h<0) u (bd (a+h))) λc=>cr (0≤a∧a≤c∧c≤u) (aq (BJ (bu a c data)) λi=>ah (i.2.2 !=0) (aA (.inl (e,bd (a+i.2.1),i.2.2))) (aK (h<0) (aA (.inl (e,u,2))) (aq (strconv_Itoa (ay b.2.1)) λj=>aq (yU a c j b.2.2) λk=>au (c9 (jh+Y d)&&c9 (Y f+bv)) (aH (bd (c+ag (f++[62])),ay b.2.1,k)))))))))))) (aA (.inr b.2.2))
def Fh:bz→vU:=λdata=>aK (ag data>65536) (J (O,0,3)) (aq (yS data) λa=>aX (Fg data) (0,0,a) λb=>dc b (λc=>J c) λd=>aq (yT d) λe=>J (e.1,0,0))
def Fi:md→Q md:=λb=>aj (Y (al b.1)) λu=>aj (ag (al b.2.1)) λa=>aj (V b.1) λd=>aj b.2.2 λc=>aj (V b.2.1) λe=>au (!decide (a>0)||e==e&&(decide (0+u=u)&&(decide (u+bv≤nat_lit 68719476736)&&d==d))) (J (aK (a>0) (J (al b.1++[(1,np (al b.2.1),0)])) b.1,aK (a>0) O b.2.1,aK (a>0) c.1 c.1,aK (a>0) c.2.1 c.2.1,aK (a>0) c.2.2 c.2.2))
def BK:md→Q (bU×md):=λb=>aq (Fi b) λa=>au (V a.1==V a.1) (J (a.1,a))
def Fj:az→md→dM:=λtext b=>J (decide (ah (!text||ag (al b.2.1)==0) (ay (aK (ag (al b.2.1)>0) (ay (ag (al b.1))) (ag (al b.1)))) (aK (ag (al b.2.1)>0) (ay (ag (al b.1))) (ag (al b.1)))>512)||decide (ay (ag (al b.2.2.1))>1024))
def BL:L→L→md→Q (az×md):=λc offset b=>aj (Y (al b.2.2.1)) λu=>aj (Y (al b.2.1)) λa=>aj (V b.2.2.1) λd=>aj (V b.2.1) λe=>aq (Fj W b) λf=>ah f (J (I,b)) (au (decide (0+a=a)&&(decide (a+bv≤nat_lit 68719476736)&&e==e)) (au (decide (0+u=u)&&(decide (u+bv≤nat_lit 68719476736)&&d==d)) (J (W,b.1,J (al b.2.1++[c]),J (al b.2.2.1++[offset]),b.2.2.2))))
def Fk:jW→L→md→Q (az×md):=λx offset b=>aq (Fj I b) λc=>ah c (J (I,b)) (aq (Fi b) λa=>au (decide (0+Y (al a.1)=Y (al a.1))&&(decide (Y (al a.1)+bv≤nat_lit 68719476736)&&V a.1==V a.1)) (au (decide (0+Y (al a.2.2.1)=Y (al a.2.2.1))&&(decide (Y (al a.2.2.1)+bv≤nat_lit 68719476736)&&V a.2.2.1==V a.2.2.1)) (J (W,J (al a.1++[x]),a.2.1,J (al a.2.2.1++[offset]),a.2.2.2))))
def Sv:L→dM:=λb=>J (b==32||b==9)
def Lu:L→Q tz:=λb=>ah (b==110) (J (10,W)) (ah (b==116) (J (9,W)) (ah (b==115) (J (32,W)) (ah (b==114) (J (13,W)) (ah (ah (b==92) (b==92) (b==123)) (J (b,W)) (J (0,I))))))
def Lv:bz→L→kL:=λb a=>aK (a<ag b) (iW a b (aq (Sv (fE (cz b a 0))) λc=>ah c (aH (ay a)) (aA a))) (aA a)
def yV:bz→L→md→Q (L×L×md):=λs c n=>aj (J (c,2,n)) λu=>aj (bu c (ag s) s) λa=>aj (aZ (H a (nat_lit 0) 0)) λb=>aj (bT (nat_lit 0) (Y a)) λj=>aj (ag a) λe=>aj (ag s) λk=>aj (decide (e>1)) λo=>aj (W&&j) λl=>aj n.2.2.2.1 λm=>aj (bd (c+2)) λf=>aj (bT bv (Y a)) λg=>aj (H a bv 0) λh=>cr (0≤c∧c≤k∧k≤k) (au l (ah (b==10) u (au (W&&(j&&(!b==92||(!o||true&&g)))) (ah (b==92&&(o&&aZ h==10)) (aX (Lv s) f λv=>J (v,0,n)) (au l (ah (b==92) (aK (e<2) u (au g (aq (Lu (fE h)) λt=>ah (!t.2) u (aq (BL t.1 m n) λp=>ah (!p.1) (J (c,3,p.2)) (J (f,0,p.2.1,p.2.2.1,p.2.2.2.1,f,f)))))) (au l (ah (b==123) (aq (oO a 125) λi=>aj (ay (bd (c+i))) λd=>aK (i<0) u (cr (0≤(1:L)∧1≤i∧i≤e) (aq (pG (bu 1 i a)) λw=>ah (!w) u (cr (0≤(1:L)∧1≤i∧i≤e) (aq (Fk (5,bu 1 i a,0) m n) λq=>ah (!q.1) (J (c,3,q.2)) (J (d,0,q.2.1,q.2.2.1,q.2.2.2.1,d,d))))))) (au j (aq (BL b m n) λr=>ah (!r.1) (J (c,3,r.2)) (J (ay c,0,r.2.1,r.2.2.1,r.2.2.2.1,ay c,ay c))))))))))))
def Lw:bz→L×md→Q (L×md⊕bV×eR⊕md):=λraw a=>aK (a.1<ag raw) (aq (yV raw a.1 a.2) λb=>ah (b.2.1 !=0) (aA (.inl ((),a.1,b.2.1))) (aH (b.1,b.2.2))) (aA (.inr a.2))
def Fl:bz→Q (L×L×az×md):=λraw=>aX (Lw raw) (0,O,O,O,0,0) λb=>dc b (λa=>J (a.2.1,a.2.2,I,O,O,O,0,0)) λc=>J (0,0,W,c)
def yW:bz→Q qz:=λraw=>aq (Fl raw) λa=>ah a.2.2.1 (ah (a.2.1 !=0) (J (O,a.1,a.2.1)) (aq (BK a.2.2.2) λb=>J (b.1,0,0))) (au (a.2.1 !=0) (J (O,a.1,a.2.1)))
def an8:bz→L→kL:=λdata a=>au (!decide (a<ag data)||decide (0≤a)&&de a data) (ah (decide (a<ag data)&&aZ (cz data a 0) !=10) (au (decide (0≤a)&&de a data) (aH (ay (ah (aZ (cz data a 0)==92) (ay a) a)))) (aA a))
def Sw:bz→L→gL:=λdata at'=>aX (an8 data) at' λa=>J (jw a (ag data))
def Lx:bz→L→kL:=λs a=>aj (aZ (cz s a 0)) λu=>aj (aK (u≥48) (!decide (u≤57)&&(!u==46&&(!u==95&& !u==45))) (!u==46&&(!u==95&& !u==45))) λb=>ah (decide (a<ag s)&&decide (a<65)) (au (decide (0≤a)&&de a s) (ah (aK (u≥97) (!decide (u≤122)&&b) b) (aA a) (aH (ay a)))) (aA a)
def Ly:bz→gL:=λs=>aX (Lx s) 0 λa=>J a
def pI:bz→bz→pE:=λs c=>if(decide (Y c<4294967281)&&c.all λb=>decide (b.toNat<128))=W then J (s.dropWhile (c.contains ·))else O
def LA:bz→L→Q tz:=λdata at'=>cr (0≤at'∧at'≤ag data∧ag data≤ag data) (aq (tL (bu at' (ag data) data) [10]) λb=>aq (pI b.1 [32,9]) λa=>au (decide (a=[])||true&&bT (nat_lit 0) (Y a)) (J (aK (a=[]) (jw (ay (bd (at'+ag b.1))) (ag data)) (jw (ay (bd (at'+ag b.1))) (ag data)),decide (a=[])||aZ (H a (nat_lit 0) 0)==35)))
def Sx:bz→acm→Q (acm⊕vT⊕qx):=λdata b=>aj (ag data) λu=>aj O λd=>aK (b.1<u) (aq (LA data b.1) λl=>ah l.2 (aH (l.1,b.2)) (cr (0≤b.1∧b.1≤u∧u≤u) (aq (Ly (bu b.1 u data)) λj=>aj (bd (b.1+j)) λa=>aj (ay a) λc=>aj (decide (j>64)) λf=>aj (decide (a≥u)) λg=>aj (bu b.1 a data) λe=>aj (decide (j<1)) λh=>au (h||(f||(g||decide (0≤a)&&de a data))) (ah (h||(f||(g||aZ (cz data a 0) !=61))) (aA (.inl (d,b.1,2))) (cr (0≤b.1∧b.1≤a∧a≤u) (ah (X (du Ty.bh e b.2.1) I) (aA (.inl (d,b.1,5))) (aq (Sw data c) λi=>cr (0≤c∧c≤i∧i≤u) (aq (yW (bu c i data)) λk=>ah (k.2.2 !=0) (aA (.inl (d,bd (c+k.2.1),k.2.2))) (aq (yU c i e b.2.2) λm=>aH (jw (ay i) u,fZ Ty.bh e W b.2.1,m)))))))))) (aA (.inr b.2.2))
def Fm:bz→vU:=λdata=>aK (ag data>65536) (J (O,0,3)) (aq (yS data) λa=>aX (Sx data) (0,[],a) λb=>dc b (λc=>J c) λd=>aq (yT d) λe=>J (e.1,0,0))
def LB:bz→L→kL:=λdata a=>aK (a<ag data) (au (decide (0≤a)&&de a data) (ah (aZ (cz data a 0) !=34) (aH (ay a)) (au (!decide (ay a<ag data)||decide (0≤ay a)&&de (ay a) data) (ah (decide (ay a<ag data)&&aZ (cz data (ay a) 0)==34) (aH (bd (a+2))) (aA a))))) (aA a)
def LC:bz→L→kL:=λdata a=>aK (a<ag data) (iW a data (aq (oO [34,44,10] (fE (cz data a 0))) λb=>aK (b<0) (aH (ay a)) (aA a))) (aA a)
def LD:bz→L→acr:=λdata at'=>aj (ag data) λu=>aj (decide (at'<u)) λd=>au (!d||decide (0≤at')&&de at' data) (ah (d&&aZ (cz data at' 0)==34) (aX (LB data) (ay at') λf=>aj (aZ (cz data (ay f) 0)) λb=>aj (ay f) λa=>aj (decide (0≤a)) λe=>aK (f≥u) (J (0,W,I)) (au (a==u||e&&(de a data&&(b==44||e&&de a data))) (J (ah (a==u) a (ah (b==44) a a),W,a==u||(b==44||b==10))))) (aX (LC data) at' λc=>aj (aZ (cz data c 0)) λb=>aj (decide (0≤c)) λa=>au (c==u||a&&(de c data&&(b==44||a&&de c data))) (J (ah (c==u) c (ah (b==44) c c),I,c==u||(b==44||b==10)))))
def qC:me→Q me:=λb=>au (!decide (ag (al b.2.1)>0)||V b.2.1==V b.2.1&&(decide (0+Y (al b.1)=Y (al b.1))&&(decide (Y (al b.1)+bv≤nat_lit 68719476736)&&V b.1==V b.1))) (J (aK (ag (al b.2.1)>0) (J (al b.1++[(1,np (al b.2.1),0)])) b.1,aK (ag (al b.2.1)>0) O b.2.1,aK (ag (al b.2.1)>0) b.2.2 b.2.2))
def LG:me→Q (bU×me):=λb=>aq (qC b) λa=>au (V a.1==V a.1) (J (a.1,a))
def qD:az→me→dM:=λtext b=>J (decide (ah (!text||ag (al b.2.1)==0) (ay (aK (ag (al b.2.1)>0) (ay (ag (al b.1))) (ag (al b.1)))) (aK (ag (al b.2.1)>0) (ay (ag (al b.1))) (ag (al b.1)))>512)||decide (ay (ag (al b.2.2))>1024))
def r7:L→L→me→Q (az×me):=λc offset b=>aq (qD W b) λa=>ah a (J (I,b)) (au (decide (0+Y (al b.2.1)=Y (al b.2.1))&&(decide (Y (al b.2.1)+bv≤nat_lit 68719476736)&&V b.2.1==V b.2.1)) (au (decide (0+Y (al b.2.2)=Y (al b.2.2))&&(decide (Y (al b.2.2)+bv≤nat_lit 68719476736)&&V b.2.2==V b.2.2)) (J (W,b.1,J (al b.2.1++[c]),J (al b.2.2++[offset])))))
def tM:jW→L→me→Q (az×me):=λx offset b=>aq (qD I b) λc=>ah c (J (I,b)) (aq (qC b) λa=>au (decide (0+Y (al a.1)=Y (al a.1))&&(decide (Y (al a.1)+bv≤nat_lit 68719476736)&&V a.1==V a.1)) (au (decide (0+Y (al a.2.2)=Y (al a.2.2))&&(decide (Y (al a.2.2)+bv≤nat_lit 68719476736)&&V a.2.2==V a.2.2)) (J (W,J (al a.1++[x]),a.2.1,J (al a.2.2++[offset])))))
def BN:bz→L→me→Q (L×L×me):=λraw at' b=>aj (au (bT (nat_lit 0) (Y (bu at' (ag raw) raw))) (aq (r7 (aZ (H (bu at' (ag raw) raw) (nat_lit 0) 0)) at' b) λi=>ah (!i.1) (J (at',3,i.2)) (J (bd (at'+2),0,i.2)))) λu=>aj (bu at' (ag raw) raw) λa=>aj (J (at',2,b)) λd=>aj (aZ (H a (nat_lit 0) 0)) λe=>aj (bT (nat_lit 0) (Y a)) λf=>aj (ag raw) λg=>aj (ag a) λh=>cr (0≤at'∧at'≤g∧g≤g) (aq (pH a [34,34]) λl=>ah l u (aq (pH a [123,123]) λm=>ah m u (au (W&&f) (ah (e==34) d (au (W&&f) (ah (e==123) (aq (oO a 125) λc=>aK (c<0) d (cr (0≤(1:L)∧1≤c∧c≤h) (aq (pG (bu 1 c a)) λn=>ah (!n) d (cr (0≤(1:L)∧1≤c∧c≤h) (aq (tM (5,bu 1 c a,0) at' b) λj=>ah (!j.1) (J (at',3,j.2)) (J (ay (bd (at'+c)),0,j.2))))))) (au f (aq (r7 e at' b) λk=>ah (!k.1) (J (at',3,k.2)) (J (ay at',0,k.2))))))))))
def LH:bz→L×me→Q (L×me⊕bV×eR⊕me):=λraw a=>aK (a.1<ag raw) (aq (BN raw a.1 a.2) λb=>ah (b.2.1 !=0) (aA (.inl ((),a.1,b.2.1))) (aH (b.1,b.2.2))) (aA (.inr a.2))
def Fo:bz→Q (L×L×az×me):=λraw=>aX (LH raw) (0,O,O,O) λb=>dc b (λa=>J (a.2.1,a.2.2,I,O,O,O)) λc=>J (0,0,W,c)
def yX:bz→Q qz:=λraw=>aq (Fo raw) λa=>ah a.2.2.1 (ah (a.2.1 !=0) (J (O,a.1,a.2.1)) (aq (LG a.2.2.2) λb=>J (b.1,0,0))) (au (a.2.1 !=0) (J (O,a.1,a.2.1)))
def Sy:L→L→L→az→KC→qx→Q KA:=λa to b quoted t parts=>ah (decide (b≥t.2.2.2.1)||b==t.2.2.2.2.1&& !quoted) (J (a,2,parts)) (ah (b !=t.2.2.2.2.1) (J (0,0,parts)) (cr (0≤ay a∧ay a≤bd (to-1)∧bd (to-1)≤ag t.1) (aq (yX (bu (ay a) (bd (to-1)) t.1)) λc=>ah (c.2.2 !=0) (J (bd (ay a+c.2.1),c.2.2,parts)) (aq (strconv_Itoa t.2.2.1) λd=>aq (yU (ay a) (bd (to-1)) d parts) λe=>J (0,0,e)))))
def LI:L→L→L→KC→qx→Q pB:=λa to b t parts=>cr (0≤a∧a≤to∧to≤ag t.1) (J (ay b,aK (bu a to t.1=[116,101,120,116]) b t.2.2.2.2.1,aK (bu a to t.1=[116,101,120,116]) (ay t.2.2.2.2.2) t.2.2.2.2.2))
def Sz:KC→Eo→Q (Eo⊕Eo⊕Eo):=λt c=>aj c.2.2.2 λu=>aj (t.1,(),t.2.2.1,c.2.2.1,u.1,u.2.1) λe=>aj c.2.1 λa=>aj (ag t.1) λf=>aj c.2.2 λg=>aj u.2.2 λd=>aq (LD t.1 c.1) λb=>aj (b.1==f||decide (0≤b.1)&&de b.1 t.1) λh=>aj (b.1==f||aZ (cz t.1 b.1 0)==10) λi=>ah (!b.2.2) (aA (.inl (c.1,2,g))) (ah (t.2.2.1==0) (aq (LI c.1 b.1 a e d) λk=>aj (k.1,k.2.1,k.2.2,d) λu=>au h (ah i (aA (.inr (b.1,a,u))) (aH (ay b.1,ay a,u)))) (aq (Sy c.1 b.1 a b.2.1 e d) λj=>aj (g.1,u.1,u.2.1,j.2.2) λu=>ah (j.2.1 !=0) (aA (.inl (j.1,j.2.1,u))) (au h (ah i (aA (.inr (b.1,a,u))) (aH (ay b.1,ay a,u))))))
def SA:L→KC→qx→Q Eo:=λbegin t parts=>aX (Sz t) (begin,0,t.2.2.2.1,t.2.2.2.2.1,t.2.2.2.2.2,parts) λb=>dc b (λc=>J c) λa=>ah (decide (t.2.2.1>0)&&decide (ay a.2.1<a.2.2.1)) (J (begin,2,a.2.2)) (ah (t.2.2.1==0&&a.2.2.2.2.1==0) (J (0,6,a.2.2)) (ah (t.2.2.1==0&&decide (a.2.2.2.2.1>1)) (J (0,5,a.2.2)) (J (jw (ay a.1) (ag t.1),0,a.2.2))))
def SB:bz→L×R5→an3:=λdata b=>ah (decide (b.1<ag data)||b.2.2.2.2.1==0) (aq (SA b.1 (data,(),b.2.2.2.2) (b.2.1,b.2.2.1,b.2.2.2.1)) λa=>ah (a.2.1 !=0) (aA (.inl (O,a.1,a.2.1))) (aH (a.1,a.2.2.2.2.2.1,a.2.2.2.2.2.2.1,a.2.2.2.2.2.2.2,ay b.2.2.2.2.1,a.2.2.1,a.2.2.2.1,a.2.2.2.2.1))) (aA (.inr b.2))
def Fp:bz→vU:=λdata=>aK (ag data>65536) (J (O,0,3)) (aq (yS data) λa=>aX (SB data) (0,a.1,a.2.1,a.2.2,0,0,0,0) λc=>dc c (λd=>J d) λb=>aq (yT (b.1,b.2.1,b.2.2.1)) λe=>J (e.1,0,0))
def LJ:L→bz→vU:=λa data=>ah (a==1) (aq (Fh data) λb=>J b) (ah (a==2) (aq (Fm data) λc=>J c) (aq (Fp data) λd=>J d))
def LK:L→bz→Q (gK×eR):=λa data=>aq (yR a) λc=>ah (!c) (J ((0,O),0,1)) (aq (LJ a data) λb=>ah (b.2.2 !=0) (J ((0,O),b.2)) (J ((a,b.1),0,0)))
def SC:ky→ky→L→jK:=λa b c=>aK (c<ag (al a)) (au (decide (0≤c∧c<ag (al a))&&decide (0≤c∧c<ag (al b))) (ah (!((aM a c (I,[],[])).1==(aM b c (I,[],[])).1&&(decide ((aM a c (I,[],[])).2.1=(aM b c (I,[],[])).2.1)&&(decide ((aM a c (I,[],[])).2.2=(aM b c (I,[],[])).2.2)&&W)))) (aA (.inl I)) (aH (ay c)))) (aA (.inr ()))
def LL:ky→ky→dM:=λa b=>ah (ag (al a) !=ag (al b)) (J I) (aX (SC a b) 0 λc=>dc c (λd=>J d) λe=>J W)
def yY:gK→gL:=λd=>aq (yR d.1) λb=>ah (!b) (J 1) (aq (tK d) λc=>aq (LK d.1 c) λa=>ah (a.2.2 !=0) (J 11) (aq (LL a.1.2 d.2) λe=>ah (!e) (J 11) (J 0)))
def Fq:L→bz→Q jL:=λa raw=>ah (a==1) (aq (BJ raw) λb=>J (b.1,b.2.2)) (ah (a==2) (aq (yW raw) λc=>J (c.1,c.2.2)) (aq (yX raw) λd=>J (d.1,d.2.2)))
def yZ:gK→L→Q jL:=λd part=>aq (yR d.1) λa=>ah (!a) (J (O,1)) (au (decide (part<0)||(decide (part≥ag (al d.2))||decide (0≤part∧part<ag (al d.2)))) (ah (decide (part<0)||(decide (part≥ag (al d.2))|| !(aM d.2 part (I,[],[])).1)) (J (O,6)) (cJ part (al d.2) (aq (Fq d.1 (aM d.2 part (I,[],[])).2.2) λb=>J b))))
def Fs:gK→gf→Bi:=λd a=>aK (a.2<ag (al d.2)) (au (decide (0≤a.2∧a.2<ag (al d.2))&&(!(aM d.2 a.2 (I,[],[])).1||decide (0+Y (al a.1)=Y (al a.1))&&(decide (Y (al a.1)+bv≤nat_lit 68719476736)&&V a.1==V a.1))) (aH (ah (aM d.2 a.2 (I,[],[])).1 (J (al a.1++[a.2])) a.1,ay a.2))) (aA a.1)
def nH:gK→tD:=λd=>aX (Fs d) (O,0) λa=>au (V a==V a) (au (V a==V a) (J a))
def Ft:gK→dw→Ep×L→Q (Ep×L⊕Ep):=λd b a=>bJ a.2 (al b) (aq (yZ d (aM b a.2 0)) λc=>aH (fZ (Ty.int a7) (aM b a.2 0) c.1 a.1,ay a.2)) (aA a.1)
def LM:gK→Q Ep:=λd=>aq (nH d) λa=>aX (Ft d a) ([],0) λb=>J b
def LN:bU→lJ:=λs=>ah (!V s) (J O) (au (W&&decide (nat_lit 0+Y (al s)≤nat_lit 68719476736)) (J (J ([]++al s))))
def SE:kZ→Q kZ:=λs=>aq (LN s.2.2.2.2.2.1) λa=>J (s.1,s.2.1,s.2.2.1,s.2.2.2.1,s.2.2.2.2.1,a,s.2.2.2.2.2.2)
def LO:ky→Q ky:=λs=>ah (!V s) (J O) (au (W&&decide (nat_lit 0+Y (al s)≤nat_lit 68719476736)) (J (J ([]++al s))))
def SF:gK→Q gK:=λd=>aq (LO d.2) λa=>J (d.1,a)
def Fu:eX→vV→Q (vV⊕eX):=λp a=>bJ a.1 (al p.1) (aq (SF (aM p.1 a.1 (0,O))) λb=>au (decide (0+Y (al a.2.1)=Y (al a.2.1))&&(decide (Y (al a.2.1)+bv≤nat_lit 68719476736)&&V a.2.1==V a.2.1)) (aH (ay a.1,J (al a.2.1++[b]),a.2.2))) (aA a.2)
def Fv:eX→vV→Q (vV⊕eX):=λp a=>bJ a.1 (al p.2.1) (aq (SE (aM p.2.1 a.1 (0,0,0,(0,0),0,O,[],0,I))) λb=>au (decide (0+Y (al a.2.2.1)=Y (al a.2.2.1))&&(decide (Y (al a.2.2.1)+bv≤nat_lit 68719476736)&&V a.2.2.1==V a.2.2.1)) (aH (ay a.1,a.2.1,J (al a.2.2.1++[b]),a.2.2.2))) (aA a.2)
def LP:eX→Q eX:=λp=>aX (Fu p) (0,O,O,p.2.2) λb=>aX (Fv p) (0,b) λa=>au (V a.1==V a.1&&V a.2.1==V a.2.1) (au (V a.1==V a.1) (au (V a.2.1==V a.2.1) (J a)))
def Fw:jW→gL:=λx=>ah (x.1==1) (J (fW (Y x.2.1))) (J 1)
def Fy:bU→eR→vS:=λf a=>bJ a.2 (al f) (aq (Fw (aM f a.2 (0,[],0))) λb=>aH (bd (a.1+b),ay a.2)) (aA a.1)
def wj:bU→gL:=λf=>aX (Fy f) (0,0) λa=>J a
def Fz:bU→L→L→qz→Q (qz⊕bU):=λf b to c=>aj (aM f c.2.2 (0,[],0)) λu=>aj (Y (al c.1)) λd=>aj c.2.1 λa=>aj (bd (oz b a-a)) λe=>aj (V c.1) λi=>aj (ag u.2.1) λk=>aj (oz b a) λj=>bJ c.2.2 (al f) (aq (Fw u) λl=>aj (jw to (bd (a+l))) λg=>aj (bd (g-a)) λh=>au (!decide (j<g)||(!u.1==1||decide (0≤e∧e≤h∧h≤k))&&(decide (0+d=d)&&(decide (d+bv≤nat_lit 68719476736)&&i==i))) (aH (aK (j<g) (J (al c.1++[(u.1,ah (u.1==1) (bu e h u.2.1) u.2.1,u.2.2)])) c.1,bd (a+l),ay c.2.2))) (aA c.1)
def qE:bU→L→L→Q (bU×az):=λf a to=>aK (a<0) (J (O,I)) (aK (to<a) (J (O,I)) (aq (wj f) λc=>aK (to>c) (J (O,I)) (aX (Fz f a to) (O,0,0) λb=>au (V b==V b) (au (V b==V b) (J (b,W))))))
def wm:L→lG→lJ:=λi v=>aj (ag (al v.2.1)) λu=>aj (aM v.2.1 i (0,0,0,(0,0),0,O,[],0,I)).2 λa=>aj (decide (0≤i∧i<u)) λu=>au (u&&u) (J (X (du ((Ty.int a7).bG (Ty.int a7)) (a.1,a.2.1) v.2.2.2) O))
def wn:L→lG→lJ:=λi v=>aj (aM v.2.1 i (0,0,0,(0,0),0,O,[],0,I)).2.2.2.1 λu=>cJ i (al v.2.1) (aq (wm i v) λa=>aq (qE a u.1 u.2) λb=>J b.1)
def LQ:lI→L→eR→acn:=λa length b=>aj (aM a b.2 (0,0)) λu=>bJ b.2 (al a) (ah (decide (u.1<b.1)||(decide (u.2<u.1)||decide (u.2>length))) (aA (.inl I)) (aH (u.2,ay b.2))) (aA (.inr ()))
def LR:lI→L→dM:=λa length=>aX (LQ a length) (0,0) λb=>dc b (λc=>J c) λd=>J W
def SG:L→lb→Q (dw×bU×dw×bV×jL):=λlast b=>au (decide (0+Y (al b.2.2.1)=Y (al b.2.2.1))&&(decide (Y (al b.2.2.1)+bv≤nat_lit 68719476736)&&V b.2.2.1==V b.2.2.1)) (J (J (al b.2.2.1++[last]),b.1,b.2.1,(),b.2.2.2))
def FA:bz→Q gf:=λraw=>aq (Ls raw) λa=>ah a.2.2.1 (ah (a.2.1 !=0) (J (O,a.2.1)) (aq (SG (ag raw) a.2.2.2) λb=>J (b.1,0))) (au (a.2.1 !=0) (J (O,a.2.1)))
def SH:L→md→Q (dw×bU×dw×bV×eR):=λlast b=>au (decide (0+Y (al b.2.2.1)=Y (al b.2.2.1))&&(decide (Y (al b.2.2.1)+bv≤nat_lit 68719476736)&&V b.2.2.1==V b.2.2.1)) (J (J (al b.2.2.1++[last]),b.1,b.2.1,(),b.2.2.2))
def FB:bz→Q gf:=λraw=>aq (Fl raw) λa=>ah a.2.2.1 (ah (a.2.1 !=0) (J (O,a.2.1)) (aq (SH a.2.2.2.2.2.2.2 a.2.2.2) λb=>J (b.1,0))) (au (a.2.1 !=0) (J (O,a.2.1)))
def SI:L→me→Q (dw×bU×dw×bV):=λlast b=>au (decide (0+Y (al b.2.2)=Y (al b.2.2))&&(decide (Y (al b.2.2)+bv≤nat_lit 68719476736)&&V b.2.2==V b.2.2)) (J (J (al b.2.2++[last]),b.1,b.2.1,()))
def FC:bz→Q gf:=λraw=>aq (Fo raw) λa=>ah a.2.2.1 (ah (a.2.1 !=0) (J (O,a.2.1)) (aq (SI (ag raw) a.2.2.2) λb=>J (b.1,0))) (au (a.2.1 !=0) (J (O,a.2.1)))
def BO:L→bz→Q gf:=λa raw=>ah (a==1) (aq (FA raw) λb=>J b) (ah (a==2) (aq (FB raw) λc=>J c) (aq (FC raw) λd=>J d))
def qF:jW→dM:=λx=>J (x.1==2||(x.1==3||x.1==4))
def LS:bz→pE:=λa=>aq (tL a [32]) λb=>J b.1
def FD:bU→jW→L→jK:=λa x d=>aj (aM a d (0,[],0)) λu=>aj (aA (.inl I)) λb=>aj (aH (ay d)) λc=>bJ d (al a) (aq (qF u) λe=>ah (!e||u.2.2 !=x.2.2) c (ah (x.1 !=3) b (ah (u.1 !=2) b (aq (LS u.2.1) λf=>ah (!decide (f=x.2.1)) b c)))) (aA (.inr ()))
def LU:bU→jW→dM:=λa x=>aX (FD a x) 0 λb=>dc b (λc=>J c) λd=>J W
def LV:bU→L→dM:=λf i=>aj (aM f i (0,[],0)) λu=>aj (al f) λc=>aj (decide (u.2.2≥1)&&decide (u.2.2≤999)) λd=>aj (!decide (u.2.1=[])) λe=>aj (bd (i-1)) λa=>aj (u.2.2==0) λb=>cJ i c (ah (u.1==1) (au (!e||(!b||(i==0||decide (0≤a∧a<ag c)))) (J (e&&(b&&(i==0||(aM f a (0,[],0)).1 !=1))))) (ah (u.1==5) (aq (pG u.2.1) λg=>J (g&&b)) (ah (ah (u.1==2) (u.1==2) (u.1==4)) (aq (Fe u.2.1) λh=>J (h&&d)) (ah (u.1==3) (aq (pG u.2.1) λj=>J (j&&d)) (J I)))))
def LW:bU→L→rU:=λf a=>bJ a (al f) (aq (LV f a) λb=>ah (!b) (aA (.inl 1)) (aq (qF (aM f a (0,[],0))) λc=>ah c (cr (0≤(0:L)∧0≤a∧a≤ag (al f)) (aq (LU (gj (bu 0 a) f) (aM f a (0,[],0))) λd=>ah (!d) (aA (.inl 7)) (aH (ay a)))) (aH (ay a)))) (aA (.inr ()))
def y0:bU→gL:=λf=>aK (ag (al f)>512) (J 3) (aq (wj f) λa=>aK (a>1024) (J 3) (aX (LW f) 0 λb=>dc b (λc=>J c) λd=>J 0))
def wo:lH→Q vR:=λl=>if(decide (Y (X l [])%2=0)&&decide (0<Y (X l []))&&decide (Y (X l [])≤2000))=W then J (0,0,0,[],l)else O
def wq:M (M ao)→Q (M (ao×M ao))|[]=>J []|[c]::n::r=>(wq r).map ((c,n):: ·)|_=>O
def FE(ps:M (ao×M ao))(s:M ao):M ao:=s.flatMap λc=>X (eZ ps c) [c]
def BP(ps:M (ao×M ao))(s:M ao):az:=decide (2≤Y ps)&&decide (Y ps≤1000)&&decide (ps.map (·.1)).Nodup&&ps.all (λp=>decide (2≤Y p.2))&&decide (Y s≤1073741824)&&decide (Y (FE ps s)≤1099511627776)
abbrev an9:Type:=L×L×L×M (ao×M ao)×Q (M (M ao))
def tN(s:M ao)(b:an9):Q (M ao×L×L×M (ao×M ao)×Q (M (M ao))):=if b.1=1 then(if BP b.2.2.2.1 s=W then J (FE b.2.2.2.1 s,b.1,b.2.1,b.2.2.2.1,b.2.2.2.2)else O)else if b.1=0∧b.2.1=0 then match wq (X b.2.2.2.2 [])with|some ps=>if BP ps s=W then J (FE ps s,1,0,ps,O)else O|none=>O else O
def FF:bU→vR→bz×vR→R2:=λf m b=>aj (aM f b.2.1 (0,[],0)) λu=>aj u.2.1 λa=>aj ([60]++a) λc=>aj (Y b.1) λd=>aj (c9 (bv+Y a)) λg=>aj ([60,47]++a) λh=>aj ([123]++a) λi=>aj b.2.2 λe=>aj (ay b.2.1) λj=>aj (c++[47,62]) λk=>bJ b.2.1 (al f) (ah (u.1==1) (aq (tN a (e.1,e.2.1,m.2.2.1,e.2.2)) λl=>iw (d+Y l.1) (aH (b.1++l.1,j,l.2))) (ah (u.1==5) (au (g&&(c9 (Y i+bv)&&c9 (d+Y (i++[125])))) (aH (b.1++(i++[125]),j,e))) (aq (wh a) λn=>aq (BG n) λo=>ah o (aA (.inl ([],7))) (au (ah (u.1==2) (g&&(c9 (Y c+bv)&&c9 (d+Y (c++[(62:ao)])))) (ah (u.1==3) (c9 (jh+Y a)&&(c9 (Y h+bv)&&c9 (d+Y (h++[62])))) (!u.1==4||g&&(c9 (Y c+jh)&&c9 (d+Y k))))) (aH (ah (u.1==2) (b.1++(c++[62])) (ah (u.1==3) (b.1++(h++[62])) (ah (u.1==4) (b.1++k) b.1)),j,e)))))) (aA (.inr b.1))
def FG:bU→pD:=λf=>aq (y0 f) λb=>ah (b !=0) (J ([],b)) (aq (wo (J [[60],[38,108,116,59],[38],[38,97,109,112,59],[123],[38,108,98,59]])) λa=>aX (FF f a) ([],0,a.1,a.2.1,a.2.2.2) λc=>dc c (λd=>J d) λe=>J (e,0))
def FH:bU→vR→bz×vR→R2:=λf e a=>aj (aM f a.2.1 (0,[],0)) λu=>aj ([123]++u.2.1) λc=>aj a.2.2 λb=>bJ a.2.1 (al f) (ah (u.1==1) (aq (tN u.2.1 (b.1,b.2.1,e.2.2.1,b.2.2)) λd=>iw (Y a.1+Y d.1) (aH (a.1++d.1,ay a.2.1,d.2))) (ah (u.1==5) (au (c9 (bv+Y u.2.1)&&(c9 (Y c+bv)&&c9 (Y a.1+Y (c++[125])))) (aH (a.1++(c++[125]),ay a.2.1,b))) (aA (.inl ([],7))))) (aA (.inr a.1))
def FI:bU→pD:=λf=>aq (y0 f) λb=>ah (b !=0) (J ([],b)) (aq (wo (J [[10],[92,110],[9],[92,116],[13],[92,114],[92],[92,92],[123],[92,123]])) λa=>aX (FH f a) ([],0,a.1,a.2.1,a.2.2.2) λc=>dc c (λd=>J d) λe=>J (e,0))
def acx:bU→vR→bz×vR→R2:=λf e a=>aj (aM f a.2.1 (0,[],0)) λu=>aj ([123]++u.2.1) λc=>aj a.2.2 λb=>bJ a.2.1 (al f) (ah (u.1==1) (aq (tN u.2.1 (b.1,b.2.1,e.2.2.1,b.2.2)) λd=>iw (Y a.1+Y d.1) (aH (a.1++d.1,ay a.2.1,d.2))) (ah (u.1==5) (au (c9 (bv+Y u.2.1)&&(c9 (Y c+bv)&&c9 (Y a.1+Y (c++[125])))) (aH (a.1++(c++[125]),ay a.2.1,b))) (aA (.inl ([],7))))) (aA (.inr a.1))
def FJ:bU→pD:=λf=>aq (y0 f) λb=>ah (b !=0) (J ([],b)) (aq (wo (J [[34],[34,34],[123],[123,123]])) λa=>aX (acx f a) ([],0,a.1,a.2.1,a.2.2.2) λc=>dc c (λd=>J d) λe=>J (e,0))
def FK:L→bU→pD:=λa f=>ah (a==1) (aq (FG f) λb=>J b) (ah (a==2) (aq (FI f) λc=>J c) (aq (FJ f) λd=>J d))
def LX:bU→L×dw→Q (L×dw⊕L×dw):=λf a=>aj (ag (al f)) λu=>aj (aM f a.1 (0,[],0)) λb=>aj (Y (al a.2)) λc=>aj (decide (0≤a.1∧a.1<u)) λd=>aj (jU a.2 (fN b.2.1)) λe=>aj (decide (a.1<u)) λu=>aj (c+Y (fN b.2.1)) λi=>aj (V a.2) λg=>aj (V e) λh=>au (!u||d) (ah (u&&b.1==1) (au (d&&(decide (0+c=c)&&(decide (i≤nat_lit 68719476736)&&(g==g&&h==h)))) (aH (ay a.1,e))) (aA a))
def LY:bU→jL→yz:=λf a=>aj (Y (al a.1)) λu=>aj (decide (0+u=u)&&(decide (u+bv≤nat_lit 68719476736)&&V a.1==V a.1)) λu=>aj (al f) λb=>aj (aM f a.2 (0,[],0)) λc=>aj (al a.1) λd=>bJ a.2 b (ah (c.1 !=1) (au (decide (0≤a.2∧a.2<ag b)&&u) (aH (J (d++[c]),ay a.2))) (aX (LX f) (a.2,O) λh=>aj (ag (al h.2)) λe=>aj (V h.2) λg=>au (!decide (e>0)||g==g&&u) (aH (aK (e>0) (J (d++[(1,np (al h.2),0)])) a.1,h.1)))) (aA a.1)
def FL:bU→lJ:=λf=>aX (LY f) (O,0) λa=>au (V a==V a) (au (V a==V a) (J a))
def LZ:L→lJ:=λn=>if(!decide (n<(0:L)))=W then if(!decide (aby a7 (n-(0:L))>(0:L))||true&&(decide ((0:L)≤aby a7 (n-(0:L))∧aby a7 (n-(0:L))≤(68719476736:L))&&(decide ((0:L)≤(0:L)∧(0:L)≤(0:L)∧(0:L)≤ag (X (eo (ep (G (aby a7 (n-(0:L)))) ((0:L),([]:M ao),(0:L)))) []))&&V (gj (bu (0:L) (0:L)) (eo (ep (G (aby a7 (n-(0:L)))) ((0:L),([]:M ao),(0:L)))))==V (eo (ep (G (aby a7 (n-(0:L)))) ((0:L),([]:M ao),(0:L)))))))=W then if(V (if decide (aby a7 (n-(0:L))>(0:L))=W then gj (bu (0:L) (0:L)) (eo (ep (G (aby a7 (n-(0:L)))) ((0:L),([]:M ao),(0:L))))else O)==V (if decide (aby a7 (n-(0:L))>(0:L))=W then gj (bu (0:L) (0:L)) (eo (ep (G (aby a7 (n-(0:L)))) ((0:L),([]:M ao),(0:L))))else O))=W then if(V (if decide (aby a7 (n-(0:L))>(0:L))=W then gj (bu (0:L) (0:L)) (eo (ep (G (aby a7 (n-(0:L)))) ((0:L),([]:M ao),(0:L))))else O)==V (if decide (aby a7 (n-(0:L))>(0:L))=W then gj (bu (0:L) (0:L)) (eo (ep (G (aby a7 (n-(0:L)))) ((0:L),([]:M ao),(0:L))))else O))=W then J (if decide (aby a7 (n-(0:L))>(0:L))=W then gj (bu (0:L) (0:L)) (eo (ep (G (aby a7 (n-(0:L)))) ((0:L),([]:M ao),(0:L))))else O)else O else O else O else O
def FM:pC→eR→vS:=λslices a=>aK (a.2<ag (al slices)) (au (decide (0≤a.2∧a.2<ag (al slices))&& !decide (bd (a.1+ag (al (aM slices a.2 O)))<0)) (aH (bd (a.1+ag (al (aM slices a.2 O))),ay a.2))) (aA a.1)
def FN:pC→jL→yz:=λslices a=>aj (al (aM slices a.2 O)) λu=>aj (Y (al a.1)) λb=>aj (ag (al slices)) λc=>aj (V (jU a.1 u)) λd=>aj (V a.1) λe=>aK (a.2<c) (au (decide (0≤a.2∧a.2<c)&&(decide (0+b=b)&&(decide (b+Y u≤nat_lit 68719476736)&&(e==e&&d==d)))) (aH (jU a.1 u,ay a.2))) (aA a.1)
def L0:pC→lJ:=λslices=>aX (FM slices) (0,0) λc=>aq (LZ c) λb=>au (V b==V b) (aX (FN slices) (b,0) λa=>au (V a==V a) (au (V a==V a) (J a)))
def BQ:bU→bU→lJ:=λa b=>aq (L0 (J [a,b])) λc=>aq (FL c) λd=>J d
def FO:bU→lI→pC→qz→Q (qz⊕jL):=λf a targets b=>bJ b.2.2 (al a) (aq (qE f b.2.1 (aM a b.2.2 (0,0)).1) λc=>aq (BQ b.1 c.1) λd=>cJ b.2.2 (al targets) (aq (BQ d (aM targets b.2.2 O)) λe=>aH (e,(aM a b.2.2 (0,0)).2,ay b.2.2))) (aA (b.1,b.2.1))
def L1:bU→lI→pC→lJ:=λf a targets=>aX (FO f a targets) (O,0,0) λb=>aq (wj f) λc=>aq (qE f b.2 c) λd=>aq (BQ b.1 d.1) λe=>J e
def FQ:bU→dw×M tz×L→Q (dw×M tz×L⊕dw):=λf a=>aj (aM f a.2.2 (0,[],0)) λu=>aj (!X (du (Ty.int a7) u.2.2 a.2.1) I) λe=>aj (Y (al a.1)) λb=>aj (V a.1) λd=>bJ a.2.2 (al f) (aq (qF u) λg=>aj (g&&e) λc=>au (!c||decide (0+b=b)&&(decide (b+bv≤nat_lit 68719476736)&&d==d)) (aH (ah c (J (al a.1++[u.2.2])) a.1,ah c (fZ (Ty.int a7) u.2.2 W a.2.1) a.2.1,ay a.2.2))) (aA a.1)
def L2:bU→tD:=λf=>aX (FQ f) (O,[],0) λa=>au (V a==V a) (au (V a==V a) (J a))
def L3:dw→dw→M eR×L→Q (M eR×L⊕M eR):=λa to b=>aK (b.2≥0) (au (decide (0≤b.2∧b.2<ag (al a))&&decide (0≤b.2∧b.2<ag (al to))) (aH (fZ (Ty.int a7) (aM a b.2 0) (aM to b.2 0) b.1,bd (b.2-1)))) (aA b.1)
def FR:bU→M eR→jL→yz:=λf h b=>aj (Y (al b.1)) λu=>aj (aM f b.2 (0,[],0)) λa=>aj (decide (0+u=u)&&(decide (u+bv≤nat_lit 68719476736)&&V b.1==V b.1)) λu=>aj (du (Ty.int a7) a.2.2 h) λc=>aj (al b.1) λd=>aj (!V c) λe=>bJ b.2 (al f) (aq (qF a) λg=>au (ah g (e||u) u) (aH (ah g (ah e b.1 (J (d++[(a.1,a.2.1,X c 0)]))) (J (d++[a])),ay b.2))) (aA b.1)
def L6:bU→dw→dw→lJ:=λf a to=>aX (L3 a to) ([],bd (jw (ag (al a)) (ag (al to))-1)) λc=>aX (FR f c) (O,0) λb=>au (V b==V b) (aq (FL b) λd=>J d)
def FT:L→M L×L→Q (M L×L⊕M L):=λn a=>aK (a.2<ag (ep (G n) (0:L))) (au (decide (0≤a.2∧a.2<ag a.1)&&bT (0+G a.2) (Y a.1)) (aH (a.1.set (0+G a.2) (ay a.2),ay a.2))) (aA a.1)
def FU:L→tD:=λn=>cr (0≤n∧n≤n∧n≤68719476736) (aX (FT n) (ep (G n) 0,0) λa=>J (J a))
def L7:bU→lJ:=λf=>aq (L2 f) λa=>aq (FU (fW (Y (al a)))) λb=>aq (L6 f a b) λc=>J c
def aoa:bU→bU→L→jK:=λa b c=>aj (ag (al a)) λu=>aj (aM a c (0,[],0)) λd=>aj (aM b c (0,[],0)) λe=>aj (ag (al b)) λf=>aK (c<u) (au (decide (0≤c∧c<u)&&decide (0≤c∧c<f)) (ah (!(d.1==e.1&&(decide (d.2.1=e.2.1)&&(d.2.2==e.2.2&&W)))) (aA (.inl I)) (aH (ay c)))) (aA (.inr ()))
def SJ:bU→bU→dM:=λa b=>ah (ag (al a) !=ag (al b)) (J I) (aX (aoa a b) 0 λc=>dc c (λd=>J d) λe=>J W)
def Ma:bU→bU→dM:=λa b=>aq (SJ a b) λc=>J c
def Mb:ky→Q ky:=λs=>ah (!V s) (J O) (au (W&&decide (nat_lit 0+Y (al s)≤nat_lit 68719476736)) (J (J ([]++al s))))
def FV:gK→L→lI→pC→gf→Bl→Q (Bl⊕yC⊕mc):=λj m k l i e=>aj (aM k e.2.2 (0,0)) λu=>aj (aM j.2 m (I,[],[])).2.2 λf=>aj (aM i.1 u.1 0) λc=>aj (ag (al i.1)) λg=>aj e.2.1 λa=>aj (bu a c f) λd=>aj e.2.2 λb=>bJ b (al k) (cJ b (al l) (aq (FK j.1 (aM l b O)) λh=>ah (h.2 !=0) (aA (.inl (h.2,0,O))) (au (decide (0≤u.1∧u.1<g)&&(decide (0≤a∧a≤c∧c≤ag f)&&(c9 (Y d+Y h.1)&&c9 (Y e.1+Y (d++h.1))))&&decide (0≤u.2∧u.2<g)) (aH (e.1++(d++h.1),aM i.1 u.2 0,ay b))))) (aA (.inr (e.1,a)))
def oP:gK→L→lI→pC→KF:=λc f k m=>aj (aM c.2 f (I,[],[])).2.2 λu=>aj (0,O) λa=>aj (J (a,1)) λh=>aj (ag u) λd=>aj (0+G f) λe=>aq (yY c) λv=>ah (v !=0) (J (a,v)) (aq (yZ c f) λl=>ah (l.2 !=0) (J (a,l.2)) (ah (ag (al m) !=ag (al k)) h (aq (wj l.1) λw=>aq (LR k w) λx=>ah (!x) h (cJ f (al c.2) (aq (BO c.1 u) λn=>ah (n.2 !=0) (J (a,n.2)) (aX (FV c f k m n) ([],0,0) λy=>dc y (λo=>aj (V o.2.2) λu=>au (u==u) (J (o.2,o.1))) λg=>aj (bu g.2 d u) λu=>au (decide (0≤g.2∧g.2≤d∧d≤d)&&c9 (Y g.1+Y u)) (aq (Fq c.1 (g.1++u)) λp=>ah (p.2 !=0) (J (a,p.2)) (aq (L1 l.1 k m) λq=>aq (L7 q) λr=>aq (Ma p.1 r) λs=>ah (!s) (J (a,11)) (aq (Mb c.2) λi=>aj (al i) λb=>aj (c.1,J (b.set e ((H b e (I,[],[])).1,(H b e (I,[],[])).2.1,g.1++u))) λu=>aj (V i) λj=>au (j==j) (au (decide (0≤f∧f<ag b)&&bT e (Y b)) (aq (tK u) λt=>aK (ag t>65536) (J (a,3)) (J (u,0)))))))))))))
def SL:bU→dw×gf→aci:=λf a=>aj (al a.2.1) λu=>aj (aM f a.2.2 (0,[],0)) λc=>aj (bd (ag u-1)) λb=>aj (Y (al a.1)) λi=>aj (Y u) λd=>aj (gj (bu 0 b) a.2.1) λl=>aj (V a.2.1) λj=>aj (ay a.2.2) λe=>aj (ag u) λk=>aj (c.1==3) λg=>aj (V a.1) λh=>bJ a.2.2 (al f) (ah (c.1==2) (au (decide (0+d=d)&&(decide (d+bv≤nat_lit 68719476736)&&j==j)) (aH (a.1,J (u++[c.2.2]),e))) (ah (g&&k==0) (au (decide (0+i=i)&&(decide (i+bv≤nat_lit 68719476736)&&h==h)) (aH (J (al a.1++[c.2.2]),a.2.1,e))) (au (!g||decide (0≤b∧b<k)&&bT (0+G b) d) (ah (g&&H u (0+G b) 0==c.2.2) (au (decide (0≤(0:L)∧0≤b∧b≤k)&&V l==j) (aH (a.1,l,e))) (ah g (aA (.inl (O,O,I))) (aH (a.1,a.2.1,e))))))) (aA (.inr (a.1,a.2.1)))
def FW:bU→acp:=λf=>aX (SL f) (O,O,0) λc=>dc c (λb=>au (V b.1==V b.1) (au (V b.2.1==V b.2.1) (J b))) λa=>au (V a.1==V a.1&&V a.2==V a.2) (au (V a.1==V a.1) (au (V a.2==V a.2) (J (a.1,a.2,W))))
def jz(l:M (L×M ao×L)):M (M ao):=(l.filter λx=>x.1==5).map (·.2.1)
def Mc:M (M ao)→Q (M (M ao))|[]=>O|a::l=>J ((a::l).mergeSort λx y=>decide (x≤y))
def wu:Q (M (L×M ao×L))→Q (Q (M (M ao))):=λf=>if decide (Y (X f [])<4294967296)=W then J (Mc (jz (X f [])))else O
def FX:bU→jL→yz:=λf a=>bJ a.2 (al f) (aq (qF (aM f a.2 (0,[],0))) λb=>au (!b||decide (0+Y (al a.1)=Y (al a.1))&&(decide (Y (al a.1)+bv≤nat_lit 68719476736)&&V a.1==V a.1)) (aH (ah b (J (al a.1++[aM f a.2 (0,[],0)])) a.1,ay a.2))) (aA a.1)
def FY:bU→lJ:=λf=>aX (FX f) (O,0) λa=>au (V a==V a) (au (V a==V a) (J a))
def acy:dw→dw→L→jK:=λa b c=>aK (c<ag (al a)) (au (decide (0≤c∧c<ag (al a))&&decide (0≤c∧c<ag (al b))) (ah (aM a c 0 !=aM b c 0) (aA (.inl I)) (aH (ay c)))) (aA (.inr ()))
def FZ:dw→dw→dM:=λa b=>ah (ag (al a) !=ag (al b)) (J I) (aX (acy a b) 0 λc=>dc c (λd=>J d) λe=>J W)
def aob:lH→lH→L→jK:=λa b c=>aK (c<ag (al a)) (au (decide (0≤c∧c<ag (al a))&&decide (0≤c∧c<ag (al b))) (ah (!decide (aM a c []=aM b c [])) (aA (.inl I)) (aH (ay c)))) (aA (.inr ()))
def Me:lH→lH→dM:=λa b=>ah (ag (al a) !=ag (al b)) (J I) (aX (aob a b) 0 λc=>dc c (λd=>J d) λe=>J W)
noncomputable section
def F0:bU→M Bj×L→ack:=λb a=>if decide (a.snd<ag (X b []))=W then if(decide ((0:L)≤a.snd∧a.snd<ag (X b []))&&decide ((0:L)≤(↑(mD ((Ty.int a7).bG (Ty.bh.bG (Ty.int a7))) (H (X b []) (G a.snd) ((0:L),[],(0:L))) a.fst):L)∧(↑(mD ((Ty.int a7).bG (Ty.bh.bG (Ty.int a7))) (H (X b []) (G a.snd) ((0:L),[],(0:L))) a.fst):L)<ag (nt ((Ty.int a7).bG (Ty.bh.bG (Ty.int a7))) (H (X b []) (G a.snd) ((0:L),[],(0:L))) (0:L) a.fst)))=W then J (mo (pr (aby a7 (X (du ((Ty.int a7).bG (Ty.bh.bG (Ty.int a7))) (H (X b []) (G a.snd) ((0:L),[],(0:L))) a.fst) (0:L)+(1:L))) (G (↑(mD ((Ty.int a7).bG (Ty.bh.bG (Ty.int a7))) (H (X b []) (G a.snd) ((0:L),[],(0:L))) a.fst):L)) (nt ((Ty.int a7).bG (Ty.bh.bG (Ty.int a7))) (H (X b []) (G a.snd) ((0:L),[],(0:L))) (0:L) a.fst),aby a7 (a.snd+(1:L))))else O else J (mm a.fst)
def F2:bU→M Bj×L→ack:=λb a=>if decide (a.snd<ag (X b []))=W then if(decide ((0:L)≤a.snd∧a.snd<ag (X b []))&&decide ((0:L)≤(↑(mD ((Ty.int a7).bG (Ty.bh.bG (Ty.int a7))) (H (X b []) (G a.snd) ((0:L),[],(0:L))) a.fst):L)∧(↑(mD ((Ty.int a7).bG (Ty.bh.bG (Ty.int a7))) (H (X b []) (G a.snd) ((0:L),[],(0:L))) a.fst):L)<ag (nt ((Ty.int a7).bG (Ty.bh.bG (Ty.int a7))) (H (X b []) (G a.snd) ((0:L),[],(0:L))) (0:L) a.fst)))=W then J (mo (pr (aby a7 (X (du ((Ty.int a7).bG (Ty.bh.bG (Ty.int a7))) (H (X b []) (G a.snd) ((0:L),[],(0:L))) a.fst) (0:L)-(1:L))) (G (↑(mD ((Ty.int a7).bG (Ty.bh.bG (Ty.int a7))) (H (X b []) (G a.snd) ((0:L),[],(0:L))) a.fst):L)) (nt ((Ty.int a7).bG (Ty.bh.bG (Ty.int a7))) (H (X b []) (G a.snd) ((0:L),[],(0:L))) (0:L) a.fst),aby a7 (a.snd+(1:L))))else O else J (mm a.fst)
def Mf:M Bj→M U→U→bV→aco:=λb c a d=>au (bT a (Y b)) (ah ((H b a ((0,[],0),0)).2 !=0) (aA (.inl I)) (aH ()))
def SM:M U→bV→aco:=λa b=>aA (.inr ())
def r8:bU→bU→dM:=λsource target=>aq (FW source) λa=>aq (FW target) λb=>ah (!a.2.2) (J I) (ah (!b.2.2) (J I) (aq (FZ a.1 b.1) λh=>ah (!h) (J I) (aq (FZ a.2.1 b.2.1) λi=>ah (!i) (J I) (aq (FY source) λj=>aX (F0 j) ([],0) λk=>aq (FY target) λl=>aX (F2 l) (k,0) λg=>aq (rQ (Y g) (Mf g) SM ()) λm=>dc m (λc=>J c) λn=>aq (wu source) λd=>aq (wu target) λe=>aq (Me d e) λf=>J f))))
end
def Mg:kZ→dM:=λs=>aj s.2.2.2.2.2.2 λu=>aj (decide (u.1=[])) λc=>aj (!u.2.1 !=0) λb=>aj (c&&decide (u.2.1≥1)) λd=>aj s.2.2.2.2 λa=>ah (a.1==0) (J (c&&(b&&ag (al a.2.1)==0))) (ah (a.1==1) (J (c&&b)) (ah (a.1==2) (aq (pG u.1) λe=>J (e&&b)) (ah (a.1==3) (aq (pG u.1) λf=>J (ah f (b||d) d)) (J I))))
noncomputable section
def Mh:kZ→bU→lG→gL:=λs source v=>aq (Mg s) λb=>ah (!b) (J 8) (aq (y0 s.2.2.2.2.2.1) λa=>ah (a !=0||s.2.2.2.2.1 !=3) (J a) (aq (r8 source s.2.2.2.2.2.1) λc=>ah (!c) (J 7) (cJ s.2.1 (al v.1) (aq (oP (aM v.1 s.2.1 (0,O)) s.2.2.1 (J [s.2.2.2.1]) (J [s.2.2.2.2.2.1])) λd=>J d.2))))
end
def Mi:kZ→kZ→dM:=λa b=>ah (a.2.1 !=b.2.1) (J (decide (a.2.1<b.2.1))) (ah (a.2.2.1 !=b.2.2.1) (J (decide (a.2.2.1<b.2.2.1))) (J (decide (a.2.2.2.1.2≤b.2.2.2.1.1))))
noncomputable section
def F3:L→M L→lG→gL:=λi seen v=>aj (aM v.2.1 i (0,0,0,(0,0),0,O,[],0,I)) λu=>aj (al v.2.1) λb=>aj (aq (wn i v) λf=>aq (Mh u f v) λg=>J g) λc=>aj (du ((Ty.int a7).bG (Ty.int a7)) (u.2.1,u.2.2.1) v.2.2.2) λd=>aj u.2.2.2.1 λa=>aj O λe=>cJ i b (ah (!V d) (J 6) (aK (u.1<1) (J 1) (aK (u.1>bd (v.2.2.1-1)) (J 1) (aK (a.1<0) (J 1) (aK (a.2≤a.1) (J 1) (aq (wj (X d e)) λh=>aK (a.2>h) (J 1) (ah (qn (Ty.int a7) u.1 seen) (J 5) (aK (i>0) (cJ (bd (i-1)) b (aq (Mi (aM v.2.1 (bd (i-1)) (0,0,0,(0,0),0,e,[],0,I)) u) λj=>ah (!j) (J 11) c)) c))))))))
end
noncomputable section
def Mj:eX→L→Q (L⊕bV×L⊕bV):=λp a=>bJ a (al p.1) (aq (yY (aM p.1 a (0,O))) λb=>ah (b !=0) (aA (.inl ((),b))) (aH (ay a))) (aA (.inr ()))
def F6:L×lG→Ep→M U→U→lG→Q (lG⊕lG):=λc a d i16 b=>if bT i16 (Y a)=W then J (mo (b.fst,b.snd.fst,b.snd.snd.fst,match(V (du ((Ty.int a7).bG (Ty.int a7)) (c.fst,(H a i16 ((0:L),O)).fst) b.snd.snd.snd)) with|true=>fZ ((Ty.int a7).bG (Ty.int a7)) (c.fst,(H a i16 ((0:L),O)).fst) (H a i16 ((0:L),O)).snd b.snd.snd.snd|false=>pq ((Ty.int a7).bG (Ty.int a7)) (c.fst,(H a i16 ((0:L),O)).fst) (H a i16 ((0:L),O)).snd b.snd.snd.snd))else O
def SN:M U→lG→Q (lG⊕lG):=λa b=>aA b
def F7:eX→L×lG→Q (L×lG⊕lG):=λp a=>bJ a.1 (al p.1) (aq (LM (aM p.1 a.1 (0,O))) λb=>aq (rQ (Y b) (F6 a b) SN a.2) λc=>aH (ay a.1,c)) (aA a.2)
def Mk:lG→M L×L→Q (M L×L⊕bV×L⊕bV):=λb a=>bJ a.2 (al b.2.1) (aq (F3 a.2 a.1 b) λc=>ah (c !=0) (aA (.inl ((),c))) (aH (ov (Ty.int a7) (aM b.2.1 a.2 (0,0,0,(0,0),0,O,[],0,I)).1 a.1,ay a.2))) (aA (.inr ()))
def Ml:eX→Q Bk:=λp=>ah (decide (ag (al p.1)>16)||decide (ag (al p.2.1)>512)) (J (3,I,O,O,0,[])) (aX (Mj p) 0 λc=>dc c (λd=>J (d.2,I,O,O,0,[])) λg=>ah (decide (p.2.2<1)||decide (p.2.2>1073741824)) (J (1,I,O,O,0,[])) (aq (LP p) λa=>aX (F7 p) (0,a.1,a.2.1,a.2.2,[]) λb=>aX (Mk b) ([],0) λe=>dc e (λf=>J (f.2,I,O,O,0,[])) λh=>J (0,W,b)))
end
noncomputable section
def r9:eX→L→Q Bk:=λp number=>aq (Ml p) λa=>ah a.2.1 (ah (a.1 !=0) (J (a.1,I,O,O,0,[])) (ah (decide (number<0)||decide (number≥ag (al a.2.2.1))) (J (6,I,O,O,0,[])) (J (0,W,a.2.2)))) (ah (a.1 !=0) (J (a.1,I,O,O,0,[])) (cr (number<0) (J (6,I,O,O,0,[]))))
end
abbrev sa:Type:=L×L×L×(L×L)×L×Q (M (L×M ao×L))×M ao×L×az
abbrev my:Type:=Q (M (L×Q (M (az×M ao×M ao))))×Q (M sa)×L×M ((L×L)×Q (M (L×M ao×L)))
def bP(segs:M sa)(i:U):sa:=H segs i (0,0,0,(0,0),0,O,[],0,I)
def ji(segs:M sa)(keep:U→az)(num p:L):M U:=(iz (Y segs)).filter λi=>decide ((bP segs i).2.1=num)&&(keep i&&decide ((bP segs i).2.2.1=p))
def jX(a:L→M U)(rg:U→L×L)(tg:U→Q (M (L×M ao×L))):M L→L×Q (M (az×M ao×M ao))→Q ((L×Q (M (az×M ao×M ao)))×L)|[],d=>J (d,0)|u::us,d=>if a u=[]then jX a rg tg us d else match oP d u (J ((a u).map rg)) (J ((a u).map tg))with|none=>O|some (b,e)=>if e=0 then jX a rg tg us b else J ((0,O),e)
def sc(x:L):az:=decide (-9223372036854775808≤x∧x≤9223372036854775807)
def y5(keep:U→az)(num:L)(v:my):Q ((L×Q (M (az×M ao×M ao)))×L):=if(decide (0≤num∧num<ag (X v.1 []))&&(decide (Y (X v.2.1 [])≤512)&&(X v.2.1 []).all λs=>sc s.2.2.1))=W then match nH (H (X v.1 []) (G num) (0,O))with|none=>O|some us=>if(decide (Y (X us [])≤4294967296)&&(X us []).all sc)=W then jX (ji (X v.2.1 []) keep num) (λi=>(bP (X v.2.1 []) i).2.2.2.1) (λi=>(bP (X v.2.1 []) i).2.2.2.2.2.1) (X us []) (H (X v.1 []) (G num) (0,O))else O else O
def sd(num:L)(v:my):Q ((L×Q (M (az×M ao×M ao)))×L):=y5 (λi=>decide ((bP (X v.2.1 []) i).2.2.2.2.1=3)) num v
noncomputable section
def aoc:L→Bk→gf→Bi:=λnumber f a=>aj (aM f.2.2.2.1 a.2 (0,0,0,(0,0),0,O,[],0,I)) λu=>aj (ag (al f.2.2.2.1)) λc=>aj (Y (al a.1)) λb=>aj (u.2.1==number&&u.2.2.2.2.1 !=3) λd=>aj (V a.1) λe=>aK (a.2<c) (au (decide (0≤a.2∧a.2<c)&&(!d||decide (0+b=b)&&(decide (b+bv≤nat_lit 68719476736)&&e==e))) (aH (ah d (J (al a.1++[u.1])) a.1,ay a.2))) (aA a.1)
def Mm:eX→L→tD:=λp number=>aq (r9 p number) λb=>ah b.2.1 (ah (b.1 !=0) (J O) (aX (aoc number b) (O,0) λa=>au (V a==V a) (au (V a==V a) (J a)))) (au (b.1 !=0) (J O))
end
noncomputable section
def Mn:L→kZ→lG→dM:=λi s v=>ah (s.2.2.2.2.1 !=0) (aq (wn i v) λa=>aq (r8 a s.2.2.2.2.2.1) λb=>J b) (J I)
end
noncomputable section
def se(v:my)(i:U):Q az:=Mn (i:L) (bP (X v.2.1 []) i) v
def y6(num:L)(v:my):Q ((L×Q (M (az×M ao×M ao)))×L):=if((iz (Y (X v.2.1 []))).all λi=> !decide ((bP (X v.2.1 []) i).2.1=num)||(sc (bP (X v.2.1 []) i).2.1&&V (se v i)))=W then y5 (λi=>X (se v i) I) num v else O
end
noncomputable section
def F8:eX→L→pD:=λp number=>aq (r9 p number) λa=>ah a.2.1 (ah (a.1 !=0) (J ([],a.1)) (aq (y6 number a.2.2) λb=>aq (tK b.1) λc=>J (c,b.2))) (au (a.1 !=0) (J ([],a.1)))
end
def F9:L→bz→tD:=λa raw=>ah (a==1) (aq (FA raw) λb=>J b.1) (ah (a==2) (aq (FB raw) λc=>J c.1) (ah (a==3) (aq (FC raw) λd=>J d.1) (J O)))
def Mp:L→bU→pE:=λa f=>ah (a==1) (aq (FG f) λb=>J b.1) (ah (a==2) (aq (FI f) λc=>J c.1) (ah (a==3) (aq (FJ f) λd=>J d.1) (J [])))
def acz:Q (M dw)→eR→vS:=λl a=>bJ a.2 (al l) (aH (bd (a.1+ag (al (aM l a.2 O))),ay a.2)) (aA a.1)
def BR:Q (M dw)→dM:=λl=>aX (acz l) (0,0) λa=>J (decide (a>160))
def SP:dw→Q gf:=λl=>J (l,0)
def SQ:L→L→gL:=λx n=>cr (n≠0) (J (aK (x.tmod n<0) (bd (x.tmod n+n)) (x.tmod n)))
def iX:L→gf→Q eR:=λn s=>au (!decide (s.2<ag (al s.1))||decide (0≤s.2∧s.2<ag (al s.1))) (aq (SQ (aK (s.2<ag (al s.1)) (aM s.1 s.2 0) 0) n) λa=>J (a,ay s.2))
def Mq:gf→pD:=λs=>aq (iX 4 s) λa=>au (decide (0≤a.1∧a.1<4)&&bT (0+G a.1) (nat_lit 4)) (J (H [[97,110,110],[98,111,98],[101,118,101],[114,111,98]] (0+G a.1) [],a.2))
def Mr:gf→pD:=λs=>aq (iX 24 s) λa=>au (decide (0≤a.1∧a.1<24)&&bT (0+G a.1) (nat_lit 24)) (J (H [[114,101,100],[99,97,114],[82,101,100],[97],[99,97,114,115],[49,44,53],[50,50],[100,111,110,39,116],[46],[33],[32],[32,32],[60],[38],[123],[34],[92],[120,45,121],[10],[61],[125],[62],[9],[98]] (0+G a.1) [],a.2))
def SS:gf→Bl→R6:=λs a=>aK (a.2.1>0) (aq (Mr (s.1,a.2.2)) λb=>ah (!decide (a.1=[])) (aq (iX 3 (s.1,b.2)) λc=>au ((!decide (c.1>0)||c9 (Y a.1+bv))&&c9 (Y (aK (c.1>0) (a.1++[32]) a.1)+Y b.1)) (aH (aK (c.1>0) (a.1++[32]) a.1++b.1,bd (a.2.1-1),c.2))) (iw (Y a.1+Y b.1) (aH (a.1++b.1,bd (a.2.1-1),b.2)))) (aA (a.1,a.2.2))
def Ms:L→gf→pD:=λn s=>aq (iX (ay n) s) λa=>aX (SS s) ([],a) λb=>J b
def SU:bU→gf→qz→Q (qz⊕jL):=λsource s a=>aj [[114,111,116],[100,97,115,32,65,117,116,111],[],[101,105,110,32]++(aM source a.2.1 (0,[],0)).2.1,(aM source a.2.1 (0,[],0)).2.1] λu=>aj (aM source a.2.1 (0,[],0)) λb=>aj (J [b]) λd=>aj (ay a.2.1) λc=>bJ a.2.1 (al source) (ah (b.1==1) (iw (nat_lit 4+Y b.2.1) (aq (iX 5 (s.1,a.2.2)) λe=>au (decide (0≤e.1∧e.1<ag u)&&bT (0+G e.1) (nat_lit 5)) (aq (lK a.1 (J [(b.1,H u (0+G e.1) [],b.2.2)])) λh=>aH (h,c,e.2)))) (aq (iX 3 (s.1,a.2.2)) λf=>ah (f.1==0) (aq (Ms 2 (s.1,f.2)) λg=>aq (lK a.1 (J [(1,g.1,0)])) λi=>aq (lK i d) λj=>aH (j,c,g.2)) (aq (lK a.1 d) λk=>aH (k,c,f.2)))) (aA (a.1,a.2.2))
def Mt:bU→gf→Q jL:=λsource s=>aX (SU source s) (O,0,s.2) λa=>J a
def ww:kZ→kZ→dM:=λa b=>ah (a.2.1 !=b.2.1) (J (decide (a.2.1>b.2.1))) (ah (a.2.2.1 !=b.2.2.1) (J (decide (a.2.2.1>b.2.2.1))) (J (decide (a.2.2.2.1.1≥b.2.2.2.1.2))))
def Mu:dw→L→L→jK:=λl n a=>bJ a (al l) (ah (aM l a 0==n) (aA (.inl W)) (aH (ay a))) (aA (.inr ()))
def Mv:dw→L→dM:=λl n=>aX (Mu l n) 0 λa=>dc a (λb=>J b) λc=>J I
def Mw:gK→L→dM:=λd part=>aq (EE d) λa=>aq (Mv a part) λb=>J b
def za:eX→L→L→rU:=λc d b=>aj (gj (bu 0 d) c.2.1) λu=>aj (0,0,0,(0,0),0,O,[],0,I) λa=>bJ b (al u) (ah ((aM u b a).1==(aM c.2.1 d a).1) (aA (.inl 5)) (aH (ay b))) (aA (.inr ()))
def wx:eX→L→gL:=λd c=>aj (aM d.2.1 c (0,0,0,(0,0),0,O,[],0,I)) λu=>aj (al d.2.1) λe=>aj (aM d.1 u.2.1 (0,O)) λf=>aj (al d.1) λg=>aj u.2.2.2.1 λa=>aj u.2.1 λb=>cJ c e (aK (b<0) (J 6) (aK (b≥ag g) (J 6) (cJ b g (aq (Mw f u.2.2.1) λl=>ah (!l) (J 6) (cJ b g (aq (mf f u.2.2.1) λk=>aj (aq (mM k.1 a.1 a.2) λi=>aq (BF f i.1 u) λj=>J j) λh=>aK (u.1<1) (J 1) (aK (u.1≥d.2.2) (J 1) (aK (a.1<0) (J 1) (aK (a.2≤a.1) (J 1) (aq (nD k.1) λm=>aK (a.2>m) (J 1) (cr (0≤(0:L)∧0≤c∧c≤ag e) (aX (za d c) 0 λn=>dc n (λo=>J o) λq=>aK (c>0) (cJ (bd (c-1)) e (aq (ww u (aM d.2.1 (bd (c-1)) (0,0,0,(0,0),0,O,[],0,I))) λp=>ah (!p) (J 11) h)) h))))))))))))
def Mx:eX→L→rU:=λp a=>bJ a (al p.1) (aq (tJ (aM p.1 a (0,O))) λb=>ah (b !=0) (aA (.inl b)) (aH (ay a))) (aA (.inr ()))
def My:eX→L→rU:=λp a=>aK (a<ag (al p.2.1)) (aq (wx p a) λb=>ah (b !=0) (aA (.inl b)) (aH (ay a))) (aA (.inr ()))
def zb:eX→gL:=λp=>ah (decide (ag (al p.1)>16)||decide (ag (al p.2.1)>512)) (J 3) (aX (Mx p) 0 λa=>dc a (λb=>J b) λe=>ah (decide (p.2.2<1)||decide (p.2.2>1073741824)) (J 1) (aX (My p) 0 λc=>dc c (λd=>J d) λf=>J 0))
def oQ:eX→kZ→yA:=λp s=>aq (zb p) λa=>ah (a !=0) (J ((O,O,0),a)) (aq (wb p s) λb=>J b)
def Mz:eX→L→dM:=λp i=>aj (ag (al p.2.1)) λu=>aj ((aM p.2.1 (ay i) (0,0,0,(0,0),0,O,[],0,I)).2.1==(aM p.2.1 i (0,0,0,(0,0),0,O,[],0,I)).2.1) λa=>aj (decide (0≤ay i∧ay i<u)) λb=>aj (0,0,0,(0,0),0,O,[],0,I) λc=>aj (decide (0≤i∧i<u)) λd=>aj (decide (ay i<u)) λu=>au (!u||b&&(d&&(!a||b&&d))) (J (u&&(a&&(aM p.2.1 (ay i) c).2.2.1==(aM p.2.1 i c).2.2.1)))
def MA:eX→L→yA:=λm N=>aj (0,0,0,(0,0),0,O,[],0,I) λu=>aj (ag (al m.2.1)) λb=>aj m.2.1 λf=>aj (O,O,0) λn=>aj (al m.1) λC=>aj O λF=>aj (W&&decide (nat_lit 0+Y C≤nat_lit 68719476736)) λD=>aj (J ([]++C)) λE=>aq (zb m) λH=>ah (H !=0) (J (n,H)) (aq (yO m N) λc=>aj (aM f c u) λa=>aj (al (eo (al (gj (bu 0 c) f)))) λo=>aj (aM f (ay c) u).2.2.2 λu=>aj (al (gj (bu 0 c) f)) λp=>aj (aK (a.2.2.2.2.2.2.1=[]) u.2.2.2.1 a.2.2.2.2.2.2.1) λq=>aj (al (gj (bu (bd (c+2)) b) f)) λg=>aj (q,ah a.2.2.2.2.2.2.2.2 0 0,a.2.2.2.2.2.2.2.2||u.2.2.2.2.2) λh=>aj (V (eo p)) λd=>aj (o++[(a.1,a.2.1,a.2.2.1,(a.2.2.2.1.1,u.1.2),0,F,h)]) λr=>aj (ah (!decide (q=[])) 2 1) λs=>aj (decide (0≤bd (c+2)∧bd (c+2)≤b∧b≤b)) λt=>aj (decide (0≤(0:L)∧0≤c∧c≤b)) λv=>aj (a.2.2.2.1.1,u.1.2) λw=>aj (Y o) λi=>aj (decide (Y p≤nat_lit 68719476736)) λx=>aj (decide (i+bv≤nat_lit 68719476736)) λy=>aj a.2.2.1 λj=>aj (Y r) λk=>aj a.2.1 λe=>aj (decide (0+i=i)) λz=>aj (Y g) λA=>aj (ay c) λB=>aj a.2.2.2 λl=>aK (c<0) (J (n,6)) (aq (Mz m c) λP=>ah (!P) (J (n,8)) (au (decide (0≤c∧c<b)&&decide (0≤B∧B<b)) (ah (l.2.1 !=0||u.2.1 !=0) (cJ e C (aq (mf (aM m.1 e (0,O)) j) λR=>aq (mM R.1 l.1.2 u.1.1) λS=>aq (lK l.2.2.1 S.1) λT=>aq (lK T u.2.2.1) λG=>aj (Y (o++[(a.1,e,j,w,s,G,h)])) λu=>aq (Bw G) λK=>ah (K !=0) (J (n,K)) (au D (au (v&&(x&&(z&&(y&&(d==d&&(t&&(decide (0+u=u)&&decide (u+A≤nat_lit 68719476736)))))))) (J ((E,J (o++[(a.1,e,j,w,s,G,h)]++g),m.2.2),0)))))) (au D (au (v&&(x&&(z&&(y&&(d==d&&(t&&(decide (0+k=k)&&decide (k+A≤nat_lit 68719476736)))))))) (J ((E,J (r++g),m.2.2),0))))))))
def Gb:kZ→Q (L×bz):=λs=>ah (s.2.2.2.2.1==0) (J (0,[])) (ah (!decide (s.2.2.2.2.2.2.1=[])) (J (2,s.2.2.2.2.2.2.1)) (J (1,[])))
def MB:eX→L→L→L→yA:=λv H C A=>aj (0,0,0,(0,0),0,O,[],0,I) λu=>aj (al v.2.1) λw=>aj (J ((O,O,0),1)) λh=>aj v.2.1 λi=>aj (O,O,0) λs=>aj (al v.1) λx=>aj (ag w) λc=>aj v.2.2 λj=>aj (nat_lit 0+Y x) λD=>aq (zb v) λE=>ah (E !=0) (J (s,E)) (aq (yO v H) λk=>aj (aM i k u) λu=>aj (al (eo (al (gj (bu 0 k) i)))) λt=>aj (al (gj (bu 0 k) i)) λl=>aj (al (gj (bu (ay k) c) i)) λm=>aj u.2.2.2 λa=>aj (V (eo l)) λn=>aj (0,a.2.2.2.2.2) λd=>aj (bd (a.1.1+C)) λo=>aj u.2.2.1 λe=>aj u.2.1 λf=>aj (a.1.1,o) λy=>aj (o,a.1.2) λp=>aj (Y t) λg=>aj (ay k) λq=>aj a.2.2.1 λb=>aj (bd (a.1.2-a.1.1)) λz=>aK (k<0) (J (s,6)) (cJ k w (aK (C<1) h (aK (C≥z) h (aK (A<0) h (aq (nD b) λK=>aK (A>K) h (ah (decide (c≥512)||decide (j≥1073741824)) (J (s,3)) (aq (mM b 0 A) λN=>aq (nD b) λP=>aq (mM b A P) λF=>aq (Gb u) λG=>aj (u.1,f,e,y,G.1,N.1,G.2,d) λr=>aq (Gb u) λB=>aj (Y (t++[r,(j,f,e,p,B.1,F.1,B.2,d)])) λu=>au (W&&decide (D≤nat_lit 68719476736)) (au (decide (0≤(0:L)∧0≤k∧k≤c)&&(decide (Y l≤nat_lit 68719476736)&&(decide (0+g=g)&&(decide (g+jh≤nat_lit 68719476736)&&(n==n&&(decide (0≤q∧q≤c∧c≤c)&&(decide (0+u=u)&&decide (u+Y m≤nat_lit 68719476736)))))))) (J ((J ([]++x),J (t++[r,(j,f,e,p,B.1,F.1,B.2,d)]++m),ay j),0)))))))))))
def MC:eX→gf→yA:=λc k=>aj (0,0,0,(0,0),0,O,[],0,I) λu=>aj (al c.2.1) λp=>aj c.2.1 λF=>ah (ag p==0) (J (c,k.2)) (aq (iX (ag p) k) λE=>aj (aM F E.1 u) λu=>aj u.2.2.2 λa=>aj a.2.2.2.2.2 λd=>aj u.2.2.1 λe=>aj u.2.1 λf=>aj a.2.2 λm=>cJ E.1 p (aq (v7 c E.1) λH=>aq (iX 8 (k.1,E.2)) λl=>aj (J (c,l.2)) λq=>ah (l.1==0) (aq (nD H) λR=>aq (iX (oz 1 (bd (R-1))) (k.1,l.2)) λK=>aq (nD m.1) λS=>aq (iX (ay S) (k.1,K.2)) λG=>aq (MB c u.1 (bd (1+K.1)) G.1) λN=>ah (N.2 !=0) (J (c,G.2)) (J (N.1,G.2))) (ah (l.1==1) (aq (MA c u.1) λP=>ah (P.2 !=0) q (J (P.1,l.2))) (ah (l.1==2) (aq (oQ c (u.1,f,e,a.1,0,O,[],0,d)) λv=>ah (v.2 !=0) q (J (v.1,l.2))) (ah (l.1==3) (aq (oQ c (u.1,f,e,a.1,a.2.1,m.1,m.2.1,m.2.2.1,!d)) λw=>ah (w.2 !=0) q (J (w.1,l.2))) (aq (iX 3 (k.1,l.2)) λx=>aj (bd (1+x.1)) λb=>aq (Mt H (k.1,x.2)) λh=>aq (Mq (k.1,h.2)) λg=>aj (J (c,g.2)) λo=>aj (k.1,g.2) λi=>ah (b==1) (ah (b==3&&W) (aq (iX 5 i) λr=>aq (oQ c (u.1,f,e,a.1,b,h.1,[],bd (1+r.1),d)) λy=>ah (y.2 !=0) (J (c,r.2)) (J (y.1,r.2))) (aq (oQ c (u.1,f,e,a.1,b,h.1,[],0,d)) λz=>ah (z.2 !=0) o (J (z.1,g.2)))) (ah (b==3) (aq (iX 3 i) λn=>aj (ah (n.1==0) [] g.1) λj=>ah (b==3&&decide (j=[])) (aq (iX 5 (k.1,n.2)) λs=>aq (oQ c (u.1,f,e,a.1,b,h.1,j,bd (1+s.1),d)) λA=>ah (A.2 !=0) (J (c,s.2)) (J (A.1,s.2))) (aq (oQ c (u.1,f,e,a.1,b,h.1,j,0,d)) λB=>ah (B.2 !=0) (J (c,n.2)) (J (B.1,n.2)))) (ah (b==3&&decide (g.1=[])) (aq (iX 5 i) λt=>aq (oQ c (u.1,f,e,a.1,b,h.1,g.1,bd (1+t.1),d)) λC=>ah (C.2 !=0) (J (c,t.2)) (J (C.1,t.2))) (aq (oQ c (u.1,f,e,a.1,b,h.1,g.1,0,d)) λD=>ah (D.2 !=0) o (J (D.1,g.2)))))))))))
def si:bz→Q jW:=λt=>J (1,t,0)
def MD:az→gf→Q jL:=λtags s=>aj [(4,[98,114],2)] λu=>aj [(3,[98],1)] λf=>aj (si [83,97,118,101,46]) λc=>aj (si [79,112,101,110,32]) λd=>aq c λo=>aj (J [o]) λg=>aq (si [114,101,100,32,99,97,114,32,50,50,33]) λp=>aj (J [p]) λh=>aq d λq=>aq (si [32,110,111,119,46]) λr=>aj (J [q,(5,[110],0),r]) λi=>aq (si [97,32,82,101,100,32,99,97,114,46]) λt=>aj (J [t]) λj=>aq c λv=>aj (J [v]) λk=>aq (si [120]) λw=>aj (J [w]) λl=>aq c λx=>aj (J ((2,[98],1)::x::f)) λe=>aq d λy=>aq (si [99,97,114,115]) λm=>aq (si [46]) λn=>aj [g,h,i,j,k,l,e,J (y::(2,[98],1)::m::(3,[98],1)::n::u)] λu=>aj (ag u) λa=>aq (iX (ah (!tags) (bd (a-2)) a) s) λb=>au (decide (0≤b.1∧b.1<a)&&bT (0+G b.1) (nat_lit 8)) (J (H u (0+G b.1) O,b.2))
def ME:gf→eR→Bl→R6:=λs b a=>aK (a.2.1≥0) (aq (MD (bd (1+b.1)==1) (s.1,a.2.2)) λc=>aq (BD (bd (1+b.1)) c.1) λd=>au ((!!decide (a.1=[])||c9 (Y a.1+bv))&&c9 (Y (ah (!decide (a.1=[])) (a.1++[32]) a.1)+Y d.1)) (aH (ah (!decide (a.1=[])) (a.1++[32]) a.1++d.1,bd (a.2.1-1),c.2))) (aA (a.1,a.2.2))
def MF:gf→eR→Bl→R6:=λs j a=>aj [60,112,62] λu=>aj [60,47,112,62,10] λh=>aj a.2.1 λc=>aj (Y a.1) λd=>aK (c>0) (aq (iX 3 (s.1,a.2.2)) λl=>aX (ME s j) ([],l) λb=>aj ([10,34]++b.1) λe=>aj (Y b.1) λf=>aj (bd (c-1),b.2) λg=>ah (bd (1+j.1)==1) (au (c9 (n3Z+f)&&(c9 (Y (u++b.1)+nat_lit 5)&&c9 (d+Y (u++b.1++h)))) (aH (a.1++(u++b.1++h),g))) (ah (bd (1+j.1)==2) (aq (yK c) λk=>aj ([107]++k++[61]) λu=>aj (u++b.1++[10]) λi=>au (c9 (bv+Y k)&&(c9 (Y ([107]++k)+bv)&&(c9 (Y u+f)&&(c9 (Y (u++b.1)+bv)&&c9 (d+Y i))))) (aH (a.1++i,g))) (au (c9 (jh+f)&&(c9 (Y e+bv)&&c9 (d+Y (e++[34])))) (aH (a.1++(e++[34]),g))))) (aA (a.1,a.2.2))
def MG:L→gf→KF:=λn s=>aq (iX (3:L) s) λa=>if(decide ((0:L)≤aby a7 (aby a7 ((1:L)+a.fst)-(1:L))∧aby a7 (aby a7 ((1:L)+a.fst)-(1:L))<(3:L))&&bT ((0:U)+G (aby a7 (aby a7 ((1:L)+a.fst)-(1:L)))) (nat_lit 3))=W then aq (iX (aby a7 (n+(1:L))) (s.fst,a.snd)) λd=>aq (bR (MF s a) (H [[(60:ao),(104:ao),(116:ao),(109:ao),(108:ao),(62:ao)],[(35:ao),(32:ao),(99:ao),(10:ao)],[(116:ao),(101:ao),(120:ao),(116:ao)]] ((0:U)+G (aby a7 (aby a7 ((1:L)+a.fst)-(1:L)))) [],d)) λb=>aq (qB (aby a7 ((1:L)+a.fst)) b.fst) λc=>if(c.snd.snd !=(0:L))=W then aq (qB (1:L) [(60:ao),(112:ao),(62:ao),(83:ao),(97:ao),(118:ao),(101:ao),(46:ao),(32:ao),(83:ao),(97:ao),(118:ao),(101:ao),(46:ao),(60:ao),(47:ao),(112:ao),(62:ao),(60:ao),(112:ao),(62:ao),(114:ao),(101:ao),(100:ao),(32:ao),(99:ao),(97:ao),(114:ao),(32:ao),(50:ao),(50:ao),(33:ao),(60:ao),(47:ao),(112:ao),(62:ao)]) λe=>J (e.fst,b.snd)else J (c.fst,b.snd)else O
def SW:gf→rT×eR→Q (rT×eR⊕rT×L):=λs a=>aK (a.2.1≥0) (aq (MG 3 (s.1,a.2.2)) λb=>au (decide (0+Y (al a.1)=Y (al a.1))&&(decide (Y (al a.1)+bv≤nat_lit 68719476736)&&V a.1==V a.1)) (aH (J (al a.1++[b.1]),bd (a.2.1-1),b.2))) (aA (a.1,a.2.2))
def MH:gf→Q (rT×L):=λs=>aq (iX 3 s) λb=>aX (SW s) (O,b) λa=>au (V a.1==V a.1) (au (V a.1==V a.1) (J a))
def SY:gf→L×vV→Q (L×vV⊕vV):=λs a=>aK (a.1>0) (aq (MC a.2.2 (s.1,a.2.1)) λb=>aH (bd (a.1-1),b.2,b.1)) (aA a.2)
def MI:L→gf→yA:=λn s=>aq (MH s) λa=>aq yD λb=>au (V b==V b) (aq (Bu a.1 b) λc=>ah (c.2 !=0) (J ((O,O,1),a.2)) (aq (iX (ay n) (s.1,a.2)) λd=>aX (SY s) (d.1,d.2,c.1) λe=>J (e.2,e.1)))
def BS:dw→Q eX:=λl=>aq (SP l) λa=>aq (MI 10 a) λb=>J b.1
def sj:eX→L→az→dM:=λp i a=>aj (aM p.2.1 i (0,0,0,(0,0),0,O,[],0,I)).2.2.2.2 λu=>cJ i (al p.2.1) (ah (u.1==3) (J W) (ah a (ah (u.1 !=0) (aq (v7 p i) λb=>aq (yP b u.2.1) λc=>J c) (J I)) (J I)))
def Gc:eX→L→az→dw→yC→lI×pC×L→Q (lI×pC×L⊕lI×pC):=λp b c k l a=>aj (aM p.2.1 a.2.2 (0,0,0,(0,0),0,O,[],0,I)).2 λu=>aj (al a.2.1) λf=>aj (aH (a.1,a.2.1,ay a.2.2)) λg=>aj (Y (al a.1)) λd=>aj (V a.2.1) λh=>aj (Y f) λe=>aj (V a.1) λi=>bJ a.2.2 (al p.2.1) (ah (u.1==b) (ah (u.2.1==aM k l.1 0) (aq (sj p a.2.2 c) λj=>au (!j||decide (0+d=d)&&(decide (d+bv≤nat_lit 68719476736)&&i==i)&&(decide (0+e=e)&&(decide (e+bv≤nat_lit 68719476736)&&h==h))) (aH (ah j (J (al a.1++[u.2.2.1])) a.1,ah j (J (f++[u.2.2.2.2.1])) a.2.1,ay a.2.2))) g) g) (aA (a.1,a.2.1))
def BT:eX→L→az→dw→yC→Q (yC⊕yC⊕gK):=λp a b e c=>bJ c.1 (al e) (aX (Gc p a b e c) (O,O,0) λd=>ah (ag (al d.1)==0) (aH (ay c.1,c.2)) (au (V d.1==V d.1) (au (V d.2==V d.2) (aq (BE c.2 (aM e c.1 0) d.1 d.2) λf=>ah (f.2 !=0) (aA (.inl (f.2,0,O))) (aH (ay c.1,f.1)))))) (aA (.inr c.2))
def tQ:eX→L→az→KF:=λp a b=>aq (zb p) λd=>ah (d !=0) (J ((0,O),d)) (ah (decide (a<0)||decide (a≥ag (al p.1))) (J ((0,O),6)) (cJ a (al p.1) (aq (EE (aM p.1 a (0,O))) λe=>aX (BT p a b e) (0,aM p.1 a (0,O)) λf=>dc f (λc=>au (V c.2.2==V c.2.2) (J (c.2,c.1))) λg=>J (g,0))))
def Gd:eX→L→pD:=λp a=>aq (tQ p a W) λb=>ah (b.2 !=0) (J ([],b.2)) (aq (yJ b.1) λc=>J (c,0))
def ap8:L→gL:=λn=>J (bd ((bd (n+16)).tdiv 8))
def aqa:bz→eR→vS:=λsep a=>aK (a.2<ag sep) (au (decide (0≤a.2)&&de a.2 sep) (aH (aby o8 (aby o8 (a.1*16777619)+aby o8 (aZ (cz sep a.2 0))),ay a.2))) (aA a.1)
def aqb:pB→Q (pB⊕L):=λa=>aK (a.2.2>0) (aH (ah (dt a7 a.2.2 1 !=0) (aby o8 (a.1*a.2.1)) a.1,aby o8 (a.2.1*a.2.1),a.2.2.fdiv 2)) (aA a.1)
def adb:bz→Q eR:=λsep=>aX (aqa sep) (0,0) λa=>aX aqb (1,16777619,ag sep) λb=>J (a,b)
def aqc:bz→bz→eR→vS:=λs sep a=>aK (a.2<ag sep) (au (decide (0≤a.2)&&de a.2 s) (aH (aby o8 (aby o8 (a.1*16777619)+aby o8 (aZ (cz s a.2 0))),ay a.2))) (aA a.1)
def aqd:bz→bz→eR→eR→Q (eR⊕L⊕bV):=λs sep f a=>aj (aby o8 (aby o8 (aby o8 (a.1*16777619)+aby o8 (aZ (cz s a.2 0)))-aby o8 (f.2*aby o8 (aZ (cz s (bd (a.2-ag sep)) 0))))) λu=>aj (bd (ay a.2-ag sep)) λb=>aj (ay a.2) λc=>aj (bd (a.2-ag sep)) λd=>aj (ag s) λe=>aK (a.2<e) (au (decide (0≤a.2)&&de a.2 s) (au (decide (0≤d)&&de d s) (au (!u==f.1||decide (0≤b∧b≤c∧c≤e)) (ah (u==f.1&&decide (bu b c s=sep)) (aA (.inl b)) (aH (u,c)))))) (aA (.inr ()))
def aqe:bz→bz→gL:=λs sep=>aq (adb sep) λa=>aX (aqc s sep) (0,0) λb=>au (!b==a.1||decide (0≤(0:L)∧0≤ag sep∧ag sep≤ag s)) (ah (b==a.1&&decide (bu 0 (ag sep) s=sep)) (J 0) (aX (aqd s sep a) (b,ag sep) λc=>dc c (λd=>J d) λe=>J (-1:L)))
def zD:eX→L→pD:=λp a=>aq (tQ p a I) λb=>ah (b.2 !=0) (J ([],b.2)) (aq (yJ b.1) λc=>J (c,0))
def Hh:eX→L→qy→KD→qy→Q (qy⊕mL×L):=λk l m f b=>aj (aM k.2.1 b.2.2 (0,0,0,(0,0),0,O,[],0,I)) λu=>aj (decide (0+Y (al b.1)=Y (al b.1))&&(decide (Y (al b.1)+bv≤nat_lit 68719476736)&&V b.1==V b.1)) λg=>aj u.2.2.2.1 λa=>aj (bd (bd (m.2.1+aM f.2.1 a.1 0)+b.2.1)) λc=>aj (ag (al f.2.1)) λh=>aj (bd (aM f.2.1 a.2 0-aM f.2.1 a.1 0)) λi=>aj (al b.1) λj=>aj (ay b.2.2) λe=>aj b.2.1 λd=>bJ b.2.2 (al k.2.1) (ah (u.2.1 !=l||u.2.2.1 !=m.2.2) (aH (b.1,d,e)) (au (decide (0≤a.2∧a.2<h)&&decide (0≤a.1∧a.1<h)) (cJ a.1 (al f.2.1) (ah (u.2.2.2.2.1==3) (aq (BD (aM k.1 l (0,O)).1 u.2.2.2.2.2.1) λn=>au g (aH (J (j++[(u.1,c,bd (c+ag n.1))]),bd (d+bd (ag n.1-i)),e))) (au g (aH (J (j++[(u.1,c,bd (c+i))]),d,e))))))) (aA (b.1,d))
def Hj:eX→L→qy→Q (qy⊕mL):=λc d a=>aj (aM c.1 d (0,O)) λu=>aj (aM u.2 a.2.2 (I,[],[])) λb=>bJ a.2.2 (al u.2) (ah b.1 (aq (gW u.1 b.2.2) λf=>aX (Hh c d a f) (a.1,0,0) λe=>aH (e.1,bd (a.2.1+bd (ag b.2.2+e.2)),ay a.2.2)) (aH (a.1,bd (a.2.1+bd (ag b.2.2+0)),ay a.2.2))) (aA a.1)
def NQ:eX→L→Q (mL×L):=λb c=>aq (zD b c) λd=>ah (d.2 !=0) (J (O,d.2)) (cJ c (al b.1) (aX (Hj b c) (O,0,0) λa=>au (V a==V a) (au (V a==V a) (J (a,0)))))
end Go.Fd

namespace Go.Fd
open Go Go.Vs Go.Ve
noncomputable section
def tO:eX→L→pD:=λp number=>aq (r9 p number) λa=>ah a.2.1 (ah (a.1 !=0) (J ([],a.1)) (aq (sd number a.2.2) λb=>aq (tK b.1) λc=>J (c,b.2))) (au (a.1 !=0) (J ([],a.1)))
end
noncomputable section
def y7:L→Bk→mL×pB→dw→qy→Q (qy⊕qy):=λm n q g a=>aj (aM n.2.2.2.1 a.2.2 (0,0,0,(0,0),0,O,[],0,I)) λu=>aj (decide (0+Y (al a.1)=Y (al a.1))&&(decide (Y (al a.1)+bv≤nat_lit 68719476736)&&V a.1==V a.1)) λh=>aj u.2.2.2.1 λb=>aj (bd (a.2.1+aM g b.1 0)) λc=>aj (aA a) λi=>aj (decide (0≤b.1∧b.1<ag (al g))) λj=>aj (bd (aM g b.2 0-aM g b.1 0)) λk=>aj (al a.1) λl=>aj (ag (al g)) λo=>aj u.2.1 λf=>aj (ay a.2.2) λd=>aj u.2.2 λe=>bJ a.2.2 (al n.2.2.2.1) (ah (decide (f>m)||f==m&&decide (e.1>q.2.2.2)) i (aK (f<m) (aH (a.1,a.2.1,d)) (au (j&&(decide (0≤b.2∧b.2<o)&&j)) (ah (e.2.2.1==3) (aq (Mp (aM n.2.2.1 m (0,O)).1 e.2.2.2.1) λp=>au h (aH (J (l++[(u.1,c,bd (c+ag p))]),bd (a.2.1+bd (bd (bd (c+ag p)-c)-k)),d))) (au h (aH (J (l++[(u.1,c,bd (c+k))]),a.2.1,d))))))) i
def y8:L→Bk→mL×pB→qy→Q (qy⊕qy):=λc d e a=>aj (aM d.2.2.2.1 a.2.2 (0,0,0,(0,0),0,O,[],0,I)).2 λu=>aj (aA a) λb=>bJ a.2.2 (al d.2.2.2.1) (ah (decide (u.1>c)||u.1==c&&decide (u.2.1>e.2.2.2)) b (cr (u.1<c) (aH (a.1,a.2.1,ay a.2.2)))) b
def Ga:L→Bk→mL×pB→Q (mL×pB⊕mL):=λe f b=>aj (aM f.2.2.1 e (0,O)) λu=>aj (aM u.2 b.2.2.2 (I,[],[])) λa=>aj (b.1,b.2.1,b.2.2.1) λd=>aj b.2.2.2 λc=>bJ c (al u.2) (ah a.1 (aq (F9 u.1 a.2.2) λi=>aX (y7 e f b i) d λg=>aH (g.1,bd (g.2.1+ag a.2.2),g.2.2,ay c)) (aX (y8 e f b) d λh=>aH (h.1,bd (h.2.1+ag a.2.2),h.2.2,ay c))) (aA b.1)
def y9:eX→L→Q (mL×L):=λe c=>aq (r9 e c) λa=>ah a.2.1 (ah (a.1 !=0) (J (O,a.1)) (aq (sd c a.2.2) λd=>ah (d.2 !=0) (J (O,d.2)) (cJ c (al a.2.2.1) (aX (Ga c a) (O,0,0,0) λb=>au (V b==V b) (au (V b==V b) (J (b,0))))))) (au (a.1 !=0) (J (O,a.1)))
end
noncomputable section
def sf:dM:=aq (qB 3 [116,101,120,116,10,34,79,110,101,46,32,84,119,111,46,34]) λi=>aq yD λb=>au (V b==V b) (aq (Bu (J [i.1]) b) λj=>aq (wb j.1 (1,0,0,(0,0),3,J [(1,[85,34,110,46],0)],[97,110,110],0,I)) λe=>aq (wb e.1 (2,0,0,(0,0),2,J [(1,[68,101,117,120,46],0)],[97,110,110],0,I)) λa=>aq (tO a.1 0) λf=>aq (F8 a.1 0) λg=>aq (y9 a.1 0) λh=>ah (e.2==0) (ah (a.2==0) (ah (f.2==0) (ah (g.2==0) (ah (h.2==0) (aK (f.1=[116,101,120,116,10,34,85,34,34,110,46,32,84,119,111,46,34]) (aK (g.1=[116,101,120,116,10,34,85,34,34,110,46,32,68,101,117,120,46,34]) (aq (E7 h.1 (J [(1,6,11),(2,12,16)])) λk=>ah k (aq (Mm a.1 0) λc=>aq (Bv c (J [2])) λd=>J d) (J I)) (J I)) (J I)) (J I)) (J I)) (J I)) (J I)) (J I))
end
noncomputable section
end
noncomputable section
def Hk:mL×L→mc→eR→acn:=λb c a=>aj (aM b.1 a.2 (0,0,0)).2 λu=>bJ a.2 (al b.1) (ah (decide (u.1<a.1)||(decide (u.2<u.1)||decide (u.2>ag c.1))) (aA (.inl I)) (aH (u.2,ay a.2))) (aA (.inr ()))
def NR:L→eX→L→jK:=λa e c=>aj [a,0,1,2] λu=>aj (H u (0+G c) 0) λb=>aj (aA (.inl I)) λd=>aj (ag u) λu=>aK (c<u) (au (decide (0≤c∧c<u)&&bT (0+G c) (nat_lit 4)) (aq (y9 e b) λf=>aq (NQ e b) λg=>ah (f.2 !=g.2) d (aq (E7 f.1 g.1) λh=>ah (!h) d (aq (tO e b) λi=>aX (Hk f i) (0,0) λj=>dc j (λk=>aA (.inl k)) λl=>aH (ay c))))) (aA (.inr ()))
def Hl:dw→L→dM:=λl a=>aq (BR (J [l])) λb=>ah b (aq sf λc=>J c) (aq (BS l) λd=>aX (NR a d) 0 λe=>dc e (λf=>J f) λh=>aq sf λg=>J g)
end
end Go.Fd
namespace Go.PL
open Go Go.Vs Go.Ve
def gv{ρ:Type}(e:U→Q ρ):U→U→Q ρ
 |_,0=>O|i,k+1=>match e i with|some r=>J r|none=>gv e (i+1) k
theorem B4{ρ:Type}{e:U→Q ρ}:∀(k i:U),gv e i k=O↔ ∀j,i≤j→j<i+k→e j=O
 |0,i=>by grind [gv]|k+1,i=>by
  unfold gv;constructor;intro h j h1 h2;cases a:e i with
  |some r=>rw[a]at h;cases h
  |none=>
   rw[a]at h;rcases Nat.eq_or_lt_of_le h1 with rfl|h3
   exact a;exact(B4 k (i+1)).1 h j h3 (by omega)
  intro h;rw[h i (dR _) (by omega)];exact(B4 k (i+1)).2 λj h1 h2=>h j (by omega) (by omega)
theorem wD{ρ:Type}{e:U→Q ρ}{r:ρ}:∀{k i:U},gv e i k=J r→∃j,i≤j∧j<i+k∧e j=J r
 |0,i,h=>by simp[gv]at h|k+1,i,h=>by
  unfold gv at h;cases a:e i with|some x=>grind|none=>rw[a]at h;let⟨j,h1,h2,h3⟩:=wD h;grind
def Nd{ρ:Type}:Q ρ→ρ⊕bV|some r=>.inl r|none=>.inr ()
def wE{ρ:Type}(i:U)(o:Q ρ):Q (L⊕ρ⊕bV):=match o with|none=>J (.inl ((i+1:U):L))|some r=>J (.inr (.inl r))
def ae4{ρ:Type}{f:L→Q (L⊕ρ⊕bV)}(n:U)(e:U→Q ρ) (step:∀i,i<n→f (i:L)=wE i (e i))(stop:f (n:L)=J (.inr (.inr ()))):∀(k i m:U),i+k=n→k<m→eD f m (i:L)=J (Nd (gv e i k))
 |0,i,m,hi,a=>by
  obtain⟨m,rfl⟩:∃q,m=q+1:=⟨m-1,by omega⟩;have:i=n:=by omega
  subst this;unfold eD;rw[stop];rfl
 |k+1,i,m,hi,a=>by
  obtain⟨m,rfl⟩:∃q,m=q+1:=⟨m-1,by omega⟩;unfold eD gv;rw[step i (by omega)];cases e i with|some r=>rfl|none=>exact ae4 n e step stop k (i+1) m (by omega) (by omega)
def auD{ρ:Type}{f:L→Q (L⊕ρ⊕bV)}(n:U)(e:U→Q ρ)(i:U) (step:∀i,i<n→f (i:L)=wE i (e i))(stop:f (n:L)=J (.inr (.inr ())))(hi:i≤n)(hn:n<fuel):bR f (i:L)=J (Nd (gv e i (n-i))):=ae4 n e step stop (n-i) i fuel (by omega) (by omega)
def ae5{ρ:Type}{f:L→Q (L⊕ρ⊕bV)}(n:U)(e:U→Q ρ) (step:∀i,i<n→f (i:L)=wE i (e i))(stop:f (n:L)=J (.inr (.inr ())))(hn:n<fuel):bR f 0=J (Nd (gv e 0 n)):=auD n e 0 step stop (fV _) hn
theorem ae6{ρ α:Type}(o:Q ρ)(k:ρ→Q α)(d:Q α):dc (Nd o) k (λ_=>d)=match o with|some r=>k r|none=>d:=by cases o<;>rfl
def ae7{σ ρ:Type}{f:σ→Q (σ⊕ρ)}(n:U)(st:U→σ){r:ρ}(step:∀i,i<n→f (st i)=J (.inl (st (i+1))))(stop:f (st n)=J (.inr r)):∀(k i m:U),i+k=n→k<m→eD f m (st i)=J r
 |0,i,m,hi,a=>by obtain⟨m,rfl⟩:∃q,m=q+1:=⟨m-1,by omega⟩;simp_all [eD]
 |k+1,i,m,hi,a=>by obtain⟨m,rfl⟩:∃q,m=q+1:=⟨m-1,by omega⟩;unfold eD;rw[step i (by omega)];exact ae7 n st step stop k (i+1) m (by omega) (by omega)
def eS{σ ρ:Type}{f:σ→Q (σ⊕ρ)}(n:U)(st:U→σ){r:ρ}(step:∀i,i<n→f (st i)=J (.inl (st (i+1))))(stop:f (st n)=J (.inr r))(hn:n<fuel):bR f (st 0)=J r:=ae7 n st step stop n 0 fuel (by omega) (by omega)
def aT{α:Type}(l:M α):Q (M α):=match l with|[]=>O|x::r=>J (x::r)
@[simp] theorem cw{α:Type}(l:M α):X (aT l) []=l:=by cases l<;>rfl
theorem Gz{α:Type}(l:M α)(x:α):J (X (aT l) []++[x])=aT (l++[x]):=by cases l<;>rfl
def auE(b:ao):0≤aZ b:=Int.natCast_nonneg _
def auF(b:ao):aZ b<256:=by unfold aZ;have:=b.toNat_lt;omega
def zl{s:M ao}{k:U}(h:k<Y s):(decide (0≤(k:L))&&bT (G ((k:L))) (Y s))=W:=by grind [c8]
theorem lL{s:M ao}{k:U}(h:k<Y s){d:ao}:H s (G ((k:L))) d=s[k]:=by grind
end Go.PL
namespace Go.Fd
open Go Go.Vs Go.Ve Go.PL
def wF{α ρ:Type}{f:L→Q (L⊕ρ⊕bV)}(s:M α)(ok:α→az)(r:ρ)(a:U) (step:∀i(h:i<s.length),a≤i→f (i:L)=if ok s[i]then J (.inl ((i+1:U):L))else J (.inr (.inl r)))(stop:f (s.length:L)=J (.inr (.inr ()))):∀(k i m:U),i+k=s.length→k<m→a≤i→eD f m (i:L)=J (if(s.drop i).all ok then .inr ()else .inl r)
 |0,i,m+1,hi,_,_=>by simp_all [eD]|k+1,i,m+1,hi,c,b=>by
  have h:i<s.length:=by omega
  rw[xe h,List.all_cons];unfold eD;rw[step i h b];cases hk:ok s[i];rfl;exact wF s ok r a step stop k (i+1) m (by omega) (by omega) (by omega)
def auG{σ ρ:Type}(f:σ→Q (σ⊕ρ))(x:σ):bR f x=match f x with|some (.inl y)=>eD f (fuel-1) y|some (.inr z)=>J z|none=>O:=by
 rfl
def pK(b:ao):az:=decide (97≤aZ b)&&decide (aZ b≤122)
def zm(b:ao):az:=pK b||(decide (48≤aZ b)&&decide (aZ b≤57))||aZ b==45
def iG(s:M ao):az:=decide (Y s≤24)&&match s with|[]=>I|b::r=>pK b&&r.all zm
theorem cA{n:U}(h:n≤1152921504606846976):n+1<fuel:=kQ (Nat.add_le_add_right h 1) (by decide)
theorem wG(s:M ao):pG s=J (iG s):=by
 unfold pG iG aX au ah;by_cases c:Y s≤24;cases s with
 |nil=>simp|cons b r=>
  have d:bT 0 (Y (b::r))=W:=by simp[c8]
  have g:=cA (n:=Y (b::r)) (by omega);have e:bR (Lm (b::r)) 1=_:=wF (b::r) zm I 1 (λi h _=>by unfold Lm au aK ah cz ay aH aA de;dsimp-proj only[aj];rw[dQ h,aF (zl h),lL h,eh (by omega)];grind [zm,pK]) (by unfold Lm au aK ah cz ay aH aA de;dsimp-proj only[aj];rw[gb]) (Y r) 1 fuel (by simp;omega) (by grind) (by omega);have f:(pK b=W→¬aZ b<97∧¬aZ b>122)∧(pK b=I→aZ b<97∨aZ b>122):=by unfold pK;simp;omega
  simp only[pX,d];cases a:pK b;grind;have:=f.1 a;rw[aF (by simp),aV (by have:=c;simp at this ⊢;omega),e,ke c,show List.drop 1 (b::r)=r from rfl];cases r.all zm<;>rfl
 grind [ag]
theorem B5(s:List UInt8):rV s=some (iG s):=by
 unfold rV iG aX ah
 by_cases hl:Y s≤24
 ·cases s with
  |nil=>simp
  |cons b r=>
   have hF:=cA (n:=Y (b::r)) (by omega)
   have hL:=wF (f:=yI (b::r)) (b::r) zm false 1 (fun i h hi=>by
    unfold yI au aK ah cz ay aH aA de;dsimp-proj only[aj]
    rw[dQ h,if_pos (zl h),lL h,eh (by omega)]
    grind [zm,pK]) (by unfold yI au aK ah cz ay aH aA de;dsimp-proj only[aj];rw[gb]) (Y r) 1 (fuel-1) (by simp;omega) (by grind) (by omega)
   have hb:yI (b::r) 0=if pK b then some (.inl 1)else some (.inr (.inl false)):=by
    unfold yI pK au aK ah cz ay aH aA de;dsimp-proj only[aj]
    have w1:aby IntKind.i64 (0+1)=1:=rfl
    simp only[Int.toNat_zero,List.getD_cons_zero,w1]
    generalize aZ b=x
    by_cases h1:97≤x<;>by_cases h2:x≤122<;>simp[*,c8]
   rw[if_neg (by have:=hl;simp at this ⊢;omega),auG,hb]
   cases hlo:pK b
   ·simp[hlo]
   ·rw[decide_eq_true hl]
    show aq (eD (yI (b::r)) (fuel-1) ((1:Nat):Int)) _=_
    rw[hL,show List.drop 1 (b::r)=r from rfl]
    simp only[hlo]
    cases r.all zm<;>rfl
 grind [ag]
abbrev aN:=L×M ao×L
def iM(out:M aN)(x:aN):M aN:=if x.1 !=1 then out++[x]else if x.2.1=[]then out else
 match out.getLast? with|some y=>if y.1==1 then out.dropLast++[(1,y.2.1++x.2.1,0)]else out++[(1,x.2.1,0)]|none=>out++[(1,x.2.1,0)]
def dq(f:M aN):M aN:=f.foldl iM []
def bm(f:M aN):U:=(f.map λx=>Y x.2.1+1).sum
theorem jl(a b:M aN):bm (a++b)=bm a+bm b:=by simp[bm]
theorem eT(f:M aN):Y f≤bm f:=by
 induction f with|nil=>simp[bm]|cons a r b=>grind [bm]
def ae8{α:Type}{l:M α}{y:α}(h:l.getLast?=J y):l=l.dropLast++[y]:=by grind [ahR]
theorem ae9(out:M aN)(x:aN):bm (iM out x)≤bm out+(Y x.2.1+1):=by
 have h1:∀y:aN,bm [y]=Y y.2.1+1:=λy=>by simp[bm]
 unfold iM;split;rw[jl,h1];omega;split;omega;split;rename_i y hy;split;rw[ae8 hy,jl,jl,List.dropLast_concat,h1,h1];simp;omega;grind [jl];simp_all
def auH{f:M aN}{out:M aN}{i:U}(h:i<Y f)(l:bm out+bm f≤1073741824)(o:Q (M aN))(g:X o []=f):Bo o (aT out,(i:L))=J (.inl (aT (iM out f[i]),((i+1:U):L))):=by
 have e:=eT out;have j:=eT f;have m:Y f[i].2.1+1≤bm f:=by
  have:bm f=bm (f.take i)+bm (f[i]::f.drop (i+1)):=by rw[←jl,←xe h,nQ]
  grind [bm]
 unfold Bo iM aM au aK ah al ay bd aH aA c9 bv;dsimp-proj only[aj];simp only[g,cw];rw[dQ h,cW h,cf (n:=(i:L)+1) (by omega) (by omega)];generalize f[i]=x at *;have c:0≤(i:L)∧(i:L)<ag f:=⟨by omega,by simp;omega⟩;have c:decide (0≤(i:L)∧(i:L)<ag f)=W:=ke c;by_cases hk:x.1=1;by_cases d:x.2.1=[];simp[h,hk,d];cases a:out.getLast? with
 |none=>simp_all [aT]|some y=>
  obtain⟨q,rfl⟩:=ahR.1 a;have w:aby a7 (ag (q++[y])-1)=(Y q:L):=by simp at e ⊢;grind [cf]
  have hy:Y y.2.1+1≤bm (q++[y]):=by rw[jl];simp[bm]
  have hd:H (q++[y]) (Y q) (0,[],0)=y:=by simp
  have k:∀z:aN,(q++[y]).set (Y q) z=q++[z]:=λz=>by simp
  simp only[w,wZ,fq,hd,k];by_cases b:y.1=1;simp[c,hk,d,b,c8,aT];grind;simp[c,hk,d,b,c8];refine⟨by simp at e;omega,?_⟩;cases q<;>rfl
 simp[h,hk];refine⟨by omega,?_⟩;cases out<;>rfl
theorem afa{o:Q (M aN)}(b:bm (X o [])≤536870912):Ez o=J (aT (dq (X o []))):=by
 have key:∀(k i m:U)(out:M aN),i+k=Y (X o [])→k<m→bm out+bm ((X o []).drop i)≤536870912→eD (Bo o) m (aT out,(i:L))=J (aT (((X o []).drop i).foldl iM out)):=by
  intro k;induction k with
  |zero=>intro i m out hi c a;obtain⟨m,rfl⟩:∃q,m=q+1:=⟨m-1,by omega⟩;simp_all [eD,Bo,aj,aM,au,aK,ah,al,ay,bd,aH,aA,c9,bv]
  |succ k d=>intro i m out hi c a;obtain⟨m,rfl⟩:∃q,m=q+1:=⟨m-1,by omega⟩;have h:i<Y (X o []):=(by omega);unfold eD;rw[auH h (by omega) o rfl];rw[xe h]at a ⊢;refine d (i+1) m _ (by omega) (by omega) ?_;grind [ae9,bm]
 have e:=eT (X o []);unfold Ez aX au;have:=key (Y (X o [])) 0 fuel [] (by omega) (cM (cA (by omega))) (by simpa[bm]using b);rw[show bR (Bo o) (O,0)=_ from this];simp[dq]
theorem mR{a b:Q (M aN)}(c:bm (X a [])+bm (X b [])≤536870912):lK a b=J (aT (dq (X a []++X b []))):=by
 have e:=eT (X a []);have d:=eT (X b []);have h1:X (eo (X a [])) []=X a []:=by cases X a []<;>rfl
 have h2:X (jU (eo (X a [])) (X b [])) []=X a []++X b []:=by cases X a []<;>cases X b []<;>simp[jU,eo]
 unfold lK cr au al;rw[afa (by rw[h2,jl];exact c),h2,h1];simp;omega
theorem iY{α:Type}(l:M α)(k:U):bu (k:L) (ag l) l=l.drop k:=by unfold bu;simp
theorem gX{α:Type}(l:M α)(a b:U):bu (a:L) (b:L) l=(l.take b).drop a:=by unfold bu;simp
def jY(s:M ao):aN×U:=match fm s 125 with|.ofNat k=>if iG ((s.take k).drop 1)=W then((5,(s.take k).drop 1,0),k+1)else((0,[],0),0)|_=>((0,[],0),0)
theorem lc(s:M ao)(c:ao):(fm s c= -1∧∀k:U,s[k]?≠J c)∨∃k:U,fm s c=(k:L)∧s[k]?=J c∧k<Y s∧∀j:U,j<k→s[j]?≠J c:=by
 have a:=Lib.indexByte_ge s c;rcases Int.lt_or_le (fm s c) 0 with h|h
 grind [Lib.indexByte_none];grind [nW,Lib.indexByte_some]
theorem wH{a b:ao}(h:aZ a=aZ b):a=b:=by grind [aZ,UInt8.toNat_inj]
def Va{s:M ao}(n:s[0]?≠J 125)(u:0<Y s)(v:Y s≤1073741824):Bq s=J ((jY s).1,((jY s).2:L)):=by
 have run:∀(m:U)(r:L×L×M ao×L⊕bV),1≤m→m≤Y s→m≤26→(∀j,1≤j→j<m→s[j]?≠J 125)→vX s (m:L)=J (.inr r)→bR (vX s) 1=J r:=by
  intro m r h1 h2 h3 o w;refine eS (f:=vX s) (m-1) (λi=>((i+1:U):L)) (λi hi=>?_) (by grind) (cM (cA (by omega)));have c:i+1<Y s:=by omega
  have d:=o (i+1) (by omega) (by omega);rw[eM c]at d;have g:(aZ s[i+1]==125)=I:=by rw[beq_eq_false_iff_ne];intro e;exact d (bX J (wH (b:=125) e))
  unfold vX cr au ah cz ay aH aA de;rw[aF (by simp;omega),aF (zl c),lL c,g,eh (by omega)];rfl
 unfold Bq jY aX;rcases lc s 125 with⟨e,hn⟩|⟨k,e,hk,a,hn⟩
 rw[run (min (Y s) 26) (.inr ()) (by omega) (by omega) (by omega) (λj _ _=>hn j) (by unfold vX cr au ah cz ay aH aA de;rw[aV (by simp;omega)]),e];rfl;have p:k≠0:=λh=>by subst h;exact n hk
 rw[e];rcases js k 26 with l|l
 have g:(aZ s[k]==125)=W:=by rw[eM a]at hk;rw[ra hk];rfl
 have q:bu 1 (k:L) s=(s.take k).drop 1:=gX s 1 k;rw[run k (if iG ((s.take k).drop 1)=W then .inl ((k:L)+1,5,(s.take k).drop 1,0)else .inr ()) (by omega) (by omega) (by omega) (λj _ c=>hn j c) (by unfold vX cr au ah cz ay aH aA de;rw[aF (by simp;omega),aF (zl a),lL a,g,aF rfl,aF (by simp;omega),q,B5,eh (by omega)];cases iG ((s.take k).drop 1);rfl;simp;omega)];simp only[Int.ofNat_eq_natCast,aG];cases iG ((s.take k).drop 1);rfl;simp;have t:iG ((s.take k).drop 1)=I:=by unfold iG;grind
 rw[run 26 (.inr ()) (by omega) (by omega) (by omega) (λj _ c=>hn j (by omega)) (by grind [vX])];simp_all
def lM:M ao→aN×U
 |[]=>((0,[],0),0)|c::r=>if c=34 then(if r.head?=J 34 then((1,[34],0),2)else((0,[],0),0))
  else if c=123 then(if r.head?=J 123 then((1,[123],0),2)else jY (c::r))else((1,[c],0),1)
def tX(s t:M ao):nE s t=J (ac3 t s):=by grind [ag,bu,List.prefix_iff_eq_take,nE]
def GC(s t:M ao):pH s t=J (ac3 t s):=by have:=tX s t;unfold nE au at this;unfold pH Sr au;rw[this];rfl
theorem zn{c b:ao}(h:c≠b):(aZ c==aZ b)=I:=by grind [wH]
def Vb(c:ao):np [aZ c]=[c]:=by simp[np,aZ]
def afb{s:M ao}(g:s≠[])(h:Y s≤1073741824):K0 s=J ((lM s).1,((lM s).2:L)):=by
 cases s with
 |nil=>exact cO rfl g|cons c r=>
  unfold K0 lM au ah fE;rw[aF (by simp[c8])];simp only[pX,tX];by_cases h1:c=34;subst h1;cases r with|nil=>rfl|cons d r=>by_cases hd:d=34;subst hd;simp[aZ,oM,np,rc];have a:¬(34:ao)=d:=λe=>hd e.symm;simp[aZ,rc,hd,a]
  rw[show(aZ c==34)=I from zn (b:=34) h1,aV (by simp),aV h1];by_cases h2:c=123;subst h2;have f:=Va (s:=123::r) (by simp) (by simp) h;cases r with|nil=>simp[aZ,rc,f]|cons d r=>by_cases hd:d=123;subst hd;simp[aZ,oM,np,rc];have a:¬(123:ao)=d:=λe=>hd e.symm;simp[aZ,rc,hd,a,f]
  rw[show(aZ c==123)=I from zn (b:=123) h2,aV (by simp),aV h2,aF (by simp[c8])];have:=Vb c;unfold aZ at this;simp[oM,this]
def afc{σ c ρ e:Type}{f:σ→Q (σ⊕ρ)}{g:c→Q (c⊕e)}(R:σ→c→Prop)(S:ρ→e→Prop)(m:σ→U) (step:∀x y,R x y→(∃b d,f x=J (.inl b)∧g y=J (.inl d)∧R b d∧m b<m x)∨∃r a,f x=J (.inr r)∧g y=J (.inr a)∧S r a):∀(n:U)(x:σ)(y:c),R x y→m x<n→∃r a,eD f n x=J r∧eD g n y=J a∧S r a
 |n+1,x,y,h,o=>by
  unfold eD;rcases step x y h with⟨b,d,i,j,k,l⟩|⟨r,a,i,j,k⟩
  rw[i,j];exact afc R S m step n b d k (by omega);grind
def qI{σ a ρ c:Type}{f:σ→Q (σ⊕ρ)}{g:a→Q (a⊕c)}(R:σ→a→Prop)(S:ρ→c→Prop)(m:σ→U) (step:∀x y,R x y→(∃b d,f x=J (.inl b)∧g y=J (.inl d)∧R b d∧m b<m x)∨∃r r',f x=J (.inr r)∧g y=J (.inr r')∧S r r') {x:σ}{y:a}(h:R x y)(hm:m x<fuel):∃r r',bR f x=J r∧bR g y=J r'∧S r r':=afc R S m step fuel x y h hm
def dB(items:M aN)(text:M ao):M aN:=if text=[]then items else items++[(1,text,0)]
def qJ(items:M aN):Prop:=dq items=items∧∀y,items.getLast?=J y→y.1≠1
def qK(f:M aN)(x:aN):dq (f++[x])=iM (dq f) x:=by unfold dq;grind
theorem afd{items:M aN}(h:qJ items){t:M ao}(a:t≠[]):iM items (1,t,0)=items++[(1,t,0)]:=by unfold iM;rw[aV (by simp),aV a];split;rename_i y hy;rw[aV (by simpa using h.2 y hy)];rfl
def tY{items:M aN}(h:qJ items)(text:M ao):dq (dB items text)=dB items text:=by unfold dB;split;exact h.1;rename_i a;rw[qK,h.1,afd h a]
def GD{items:M aN}(h:qJ items)(text:M ao){x:aN}(hx:x.1≠1):iM (dB items text) x=dB items text++[x]∧qJ (dB items text++[x]):=by
 have e:iM (dB items text) x=dB items text++[x]:=by simp_all [iM]
 refine⟨e,by rw[qK,tY h,e],λy hy=>?_⟩;grind
def Vc{items:M aN}(h:qJ items)(text:M ao)(b:ao):iM (dB items text) (1,[b],0)=dB items (text++[b]):=by unfold dB;rw[aV (show ¬text++[b]=[] by simp)];grind [afd,iM]
def wI(items:M aN)(text:M ao):bm (dB items text)≤bm items+(Y text+1):=by grind [dB,bm]
def Nf(items:M aN)(text:M ao):Y (dB items text)=Y items+if text=[]then 0 else 1:=by unfold dB;split<;>simp
theorem jM{α:Type}(l:M α)(x:α):J (l++[x])=aT (l++[x]):=by cases l<;>rfl
def Ng(text:M ao):Y (fN text)=Y text:=by simp[fN]
def ofBytes(text:M ao):np (fN text)=text:=by
 induction text with|nil=>rfl|cons b r a=>simp[fN,np,aZ]at a ⊢;exact a
theorem afe{items:M aN}{text:M ao}{tb:Q (M L)}{cs:M L}(a:X tb []=fN text)(hi:Y items≤1073741824)(e:Y cs≤1073741824)(t:az):qD t (aT items,tb,aT cs)=J (decide ((if t=W then Y items+1 else(Y (dB items text))+1)>512∨Y cs≥1024)):=by
 have b:aby a7 ((Y items:L)+1)=(Y items:L)+1:=eh (by omega);have f:aby a7 ((Y items:L)+1+1)=(Y items:L)+1+1:=eh (by omega);have d:aby a7 ((Y cs:L)+1)=(Y cs:L)+1:=eh (by omega);unfold qD aK ah al ay;rw[Nf];simp only[cw,a,dv,Ng,d,nU];rw[zR];cases text with
 |nil=>cases t<;>simp[b]<;>omega
 |cons c r=>grind
theorem GF{items:M aN}{text:M ao}{tb:Q (M L)}{cs:Q (M L)}(a:X tb []=fN text)(hi:Y items≤1073741824):qC (aT items,tb,cs)=J (aT (dB items text),if text=[]then tb else O,cs):=by
 unfold qC dB au aK al bv;simp only[cw,a,ofBytes,dv,Ng];cases text with|nil=>simp|cons c r=>grind [jM]
def Vd{items:M aN}{text:M ao}{tb:Q (M L)}{cs:M L}(a:X tb []=fN text)(hi:Y items≤1073741824)(hx:Y text≤1073741824)(c:Y cs≤1073741824)(b:ao)(off:L):r7 (aZ b) off (aT items,tb,aT cs)=J (if Y items+1>512∨Y cs≥1024 then(I,aT items,tb,aT cs)else(W,aT items,J (fN (text++[b])),aT (cs++[off]))):=by grind [fN,r7,afe,cw,aG,jM]
def GG{items:M aN}{text:M ao}{tb:Q (M L)}{cs:M L}(b:X tb []=fN text)(hi:Y items≤1073741824)(c:Y cs≤1073741824)(x:aN)(off:L):∃a,X a []=[]∧tM x off (aT items,tb,aT cs)=J (if(Y (dB items text))+1>512∨Y cs≥1024 then(I,aT items,tb,aT cs)else(W,aT (dB items text++[x]),a,aT (cs++[off]))):=by refine⟨if text=[]then tb else O,by split<;>simp_all [fN],?_⟩;grind [tM,afe,GF,cw,aG,jM]
def aff{items:M aN}{text:M ao}{tb:Q (M L)}{cs:Q (M L)}(a:X tb []=fN text)(hi:Y items≤1073741824):∃b,LG (aT items,tb,cs)=J (aT (dB items text),b):=by unfold LG au;rw[GF a hi];simp_all
abbrev Vf:=Q (M aN)×Q (M L)×Q (M L)
def Vg(s:M ao):oO s 125=J (fm s 125):=rfl
def auI{raw:M ao}{k:U}(hk:k<Y raw)(K:Y raw≤1073741824)(B:Vf):((lM (raw.drop k)).2=0∧BN raw (k:L) B=J ((k:L),2,B))∨(∃b n,1≤n∧k+n≤Y raw∧lM (raw.drop k)=((1,[b],0),n)∧BN raw (k:L) B=aq (r7 (aZ b) (k:L) B) λr=>if(!r.fst)=W then J ((k:L),3,r.snd)else J (((k+n:U):L),0,r.snd))∨(∃nm n,Y nm+2=n∧k+n≤Y raw∧lM (raw.drop k)=((5,nm,0),n)∧BN raw (k:L) B=aq (tM (5,nm,0) (k:L) B) λr=>if(!r.fst)=W then J ((k:L),3,r.snd)else J (((k+n:U):L),0,r.snd)):=by
 have a:Y (raw.drop k)=Y raw-k:=by simp
 have o:aby a7 ((k:L)+2)=((k+2:U):L):=by grind [cf]
 have p:=di (i:=k) (by omega);unfold BN cr au aK ah ay bd;dsimp-proj only[aj];rw[aF (by simp;omega),iY,GC,GC,Vg,p,o];cases s:raw.drop k with
 |nil=>grind|cons c r=>
  rw[s]at a;simp only[kO]at a;have t:bT 0 (Y (c::r))=W:=by simp[c8]
  simp only[t,pX,uz,aG,bI];by_cases h1:c=34;subst h1;cases r with|nil=>left;simp[lM,rc,aZ]|cons d r=>grind [lM,aZ]
  have u:¬(34:ao)=c:=λe=>h1 e.symm;have v:(aZ c==34)=I:=zn (b:=34) h1;by_cases h2:c=123;subst h2;by_cases l:r.head?=J 123
  obtain⟨q,rfl⟩:∃q,r=123::q:=by cases r with|nil=>simp at l|cons x q=>grind
  grind [lM];have w:ac3 ([34,34]:M ao) (123::r)=I:=by simp[rc]
  have y:ac3 ([123,123]:M ao) (123::r)=I:=by cases r with|nil=>rfl|cons x q=>grind
  have m:(aZ 123==123)=W:=rfl;have z:lM (123::r)=jY (123::r):=by simp[lM,l]
  rw[w,y,v,m,z];simp only[bL,ch,bI];unfold jY;rcases lc (123::r) 125 with⟨e,hn⟩|⟨j,e,A,f,hn⟩
  grind;have C:j≠0:=λh=>by subst h;simp at A
  simp only[kO]at f;have D:bu 1 (j:L) (123::r)=((123::r).take j).drop 1:=gX (123::r) 1 j;have E:Y (((123::r).take j).drop 1)=j-1:=by simp;omega
  have g:decide ((0:L)≤1∧1≤(j:L)∧(j:L)≤ag (123::r))=W:=by simp;omega
  have F:aby a7 (aby a7 ((k:L)+(j:L))+1)=((k+(j+1):U):L):=by grind [cf]
  rw[e,aV (by simp),g,D,wG,F];simp only[Int.ofNat_eq_natCast,aG,bI];cases G:iG (((123::r).take j).drop 1);grind;grind;right;left;have H:¬(123:ao)=c:=λe=>h2 e.symm;have m:(aZ c==123)=I:=zn (b:=123) h2;exact⟨c,1,by omega,by omega,by simp[lM,h1,h2],by grind⟩
def RD(raw:M ao)(x:L×Vf)(y:Q (M aN)×Q (M aN)×Q (M L)×L×L×L):Prop:=∃(k:U)(items:M aN)(text:M ao)(a:Q (M L))(cs:M L),k≤Y raw∧x=((k:L),aT items,a,aT cs)∧X a []=fN text∧y=(aT (dB items text),O,aT cs,(k:L),(k:L),0)∧qJ items∧bm items+(Y text+1)≤2*k+1∧Y cs≤k
def SD(raw:M ao)(r:(bV×L×L)⊕Vf)(q:(Q (M aN)×Q (M L)×L×L)⊕(Q (M aN)×Q (M aN)×Q (M L)×L)):Prop:=(∃(k:U)(e:L),k≤Y raw∧e≠0∧r=.inl ((),(k:L),e)∧q=.inl (O,O,(k:L),e))∨∃(items:M aN)(text:M ao)(a:Q (M L))(cs:M L),r=.inr (aT items,a,aT cs)∧X a []=fN text∧q=.inr (aT (dB items text),O,aT cs,(Y raw:L))∧qJ items∧bm items+(Y text+1)≤2*Y raw+1∧Y cs≤Y raw
def afg{raw:M ao}(N:Y raw≤67108864):∃r q,bR (LH raw) (0,O,O,O)=J r∧bR (nF 3 raw) (O,O,O,0,0,0)=J q∧SD raw r q:=by
 refine qI (RD raw) (SD raw) (λx=>Y raw-x.1.toNat) (λx y h=>?_) ⟨0,[],[],O,[],by omega,rfl,rfl,rfl,⟨rfl,by simp⟩,by simp[bm],by simp⟩ (cM (cA (by simp;omega)));obtain⟨k,items,text,A,cs,hk,rfl,o,rfl,d,e,p⟩:=h;rcases js k (Y raw) with s|B
 have C:raw.drop k≠[]:=by simp;omega
 have D:rW 3 (raw.drop k)=J ((lM (raw.drop k)).1,((lM (raw.drop k)).2:L)):=by unfold rW ah;rw[afb C (by simp;omega)];rfl
 have E:=eT items;have F:=wI items text;have G:=eT (dB items text);have c:∀x:aN,bm [x]=Y x.2.1+1:=λx=>by simp[bm]
 have c1:decide ((k:L)<ag raw)=W:=by simp;omega
 have H:decide (0≤(k:L)∧(k:L)≤ag raw∧ag raw≤ag raw)=W:=by simp;omega
 unfold LH nF cJ cr au aK ah al ay bd aH aA bv;dsimp-proj only[aj];simp only[c1,H,bI,iY,D,aG];rcases auI s (by omega) (aT items,A,aT cs)with⟨f,g⟩|⟨b,n,hn,t,f,g⟩|⟨m,n,hn,t,f,g⟩
 right;rw[g,f];exact⟨_,_,rfl,rfl,.inl ⟨k,2,hk,by omega,rfl,rfl⟩⟩;rw[g,f,Vd o (by omega) (by omega) (by omega)];have u:(((n:L)==0)=I):=by grind
 have w:aby a7 ((k:L)+(n:L))=((k+n:U):L):=by grind [cf]
 have i:=mR (a:=aT (dB items text)) (b:=J [(1,[b],0)]) (by simp[c];omega);rw[cw,fL,qK,tY d,Vc d]at i;have j:Y (dB items (text++[b]))=Y items+1:=by rw[Nf];simp
 simp only[u,w,i,cw,j,aG,dv];by_cases l:Y items+1>512∨Y cs≥1024;right;simp only[aF l];refine⟨_,_,rfl,?_,.inl ⟨k,3,hk,by omega,rfl,rfl⟩⟩;simp;omega;left;simp only[aV l];refine⟨_,_,rfl,?_,⟨k+n,items,text++[b],J (fN (text++[b])),cs++[(k:L)],by omega,rfl,rfl,rfl,d,by simp;omega,by simp;omega⟩,by simp;omega⟩;grind [jM];rw[g,f];let⟨v,z,K⟩:=GG (items:=items) o (by omega) (show Y cs≤1073741824 by omega) (5,m,0) (k:L);rw[K];have u:(((n:L)==0)=I):=by grind
 have w:aby a7 ((k:L)+(n:L))=((k+n:U):L):=by grind [cf]
 have i:=mR (a:=aT (dB items text)) (b:=J [(5,m,0)]) (by simp[c];omega);let⟨f1,f2⟩:=GD d text (x:=(5,m,0)) (show(5:L)≠1 by decide);rw[cw,fL,qK,tY d,f1]at i;simp only[u,w,i,cw,aG,dv,lg,kO,Cs];by_cases l:Y (dB items text)+1>512∨Y cs≥1024;right;simp only[aF l];refine⟨_,_,rfl,?_,.inl ⟨k,3,hk,by omega,rfl,rfl⟩⟩;simp;omega;left;simp only[aV l];refine⟨_,_,rfl,?_,⟨k+n,dB items text++[(5,m,0)],[],v,cs++[(k:L)],by omega,rfl,z,rfl,f2,by grind [jl],by simp;omega⟩,by simp;omega⟩;grind [jM,dB];right;have:k=Y raw:=by omega
 subst this;have c1:decide (((Y raw:U):L)<ag raw)=I:=by simp
 unfold LH nF cJ cr au aK ah al ay bd aH aA bv;dsimp-proj only[aj];simp only[c1];exact⟨_,_,rfl,rfl,.inr ⟨items,text,A,cs,rfl,o,rfl,d,e,p⟩⟩
theorem afh{raw:M ao}(d:Y raw≤67108864):∃f a at' e,gW 3 raw=J (f,a,at',e)∧yX raw=J (f,at',e)∧0≤at'∧at'≤Y raw∧bm (X f [])≤2*Y raw+2:=by
 let⟨r,q,g,i,h⟩:=afg d;unfold gW yX Fo aX au aK ah al bv;rw[g,i];rcases h with⟨k,e,hk,j,rfl,rfl⟩|⟨items,text,s,cs,rfl,l,rfl,t,c,m⟩
 refine⟨O,O,k,e,rfl,?_,by omega,by omega,by simp[bm]⟩;simp[j];have n:=eT items;have o:=wI items text;let⟨b,p⟩:=aff (cs:=aT cs) l (by omega:items.length≤1073741824);refine⟨aT (dB items text),J (cs++[(Y raw:L)]),0,0,?_,?_,by omega,by omega,by rw[cw];omega⟩;simp;omega;simp[p]
def Nh{s:M ao}{k:U}(h:k<Y s):(decide (0≤(k:L))&&bT (G ((k:L))) (Y s))=W:=by simp[c8,h]
def pL{c:ao}{z:L}{b:ao}(a:aZ b=z):(aZ c==z)=(c==b):=by grind [wH]
theorem nK(c:ao):(aZ c==34)=(c==34):=pL rfl
def b44(c:ao):(aZ c==44)=(c==44):=pL rfl
theorem sk(c:ao):(aZ c==10)=(c==10):=pL rfl
def auJ(c:ao):oO [34,44,10] (aZ c)=J (if c=34 then 0 else if c=44 then 1 else if c=10 then 2 else-1):=by
 have h:(G (aZ c)).toUInt8=c:=by simp[aZ]
 grind [oO,Fb,Fa,aG,fm]
def Vh(data:M ao)(e:U):Prop:=e=Y data∨data[e]?=J 44∨data[e]?=J 10
def auK{data:M ao}{k:U}(hk:k≤Y data)(F:Y data≤67108864):∃(e:U)(q ok:az),K6 data (k:L)=J ((e:L),q,ok)∧LD data (k:L)=J ((e:L),q,ok)∧(ok=W→k≤e∧e≤Y data∧Vh data e∧(q=W→k+2≤e)):=by
 have G:Y data+1<fuel:=cA (by omega);have B:∀j:U,j≤Y data→∃r:U,bR (K4 data) (j:L)=J (r:L)∧bR (LB data) (j:L)=J (r:L)∧j≤r∧r≤Y data:=by
  intro j u;have:=qI (f:=K4 data) (g:=LB data) (λx y=>x=y∧∃s:U,x=(s:L)∧j≤s∧s≤Y data) (λr q=>r=q∧∃s:U,r=(s:L)∧j≤s∧s≤Y data) (λx=>Y data-x.toNat) (λx y h=>by
   obtain⟨rfl,s,rfl,h1,h2⟩:=h
   have o:=di (i:=s) (by omega)
   have t:aby a7 ((s:L)+2)=((s+2:U):L):=by grind [cf]
   have H:aby a7 (((s+1:U):L)+1)=((s+2:U):L):=by grind
   unfold K4 LB au aK ah cz ay bd aH aA de
   rw[o,t]
   rcases js s (Y data) with c|c
   have c1:decide ((s:L)<ag data)=W:=by simp;omega
   rw[c1,Nh c,lL c,nK]
   by_cases d:data[s]=34
   rcases js (s+1) (Y data) with l|l
   have m:decide (((s+1:U):L)<ag data)=W:=by simp;omega
   have g:=Nh l
   rw[m,lL l,nK]
   simp only[d,g]
   by_cases n:data[s+1]=34
   left
   refine⟨_,_,?_,?_,⟨rfl,s+2,rfl,by omega,by omega⟩,by simp;omega⟩
   simp_all [c8]
   simp[n,bne,nK,d]
   right
   refine⟨_,_,?_,?_,⟨rfl,s,rfl,by omega,by omega⟩⟩
   simp[n,c8,c,l,bne,nK,d]
   simp[n,bne,nK,d]
   right
   have m:decide (((s+1:U):L)<ag data)=I:=by simp;omega
   rw[m]
   refine⟨_,_,?_,?_,⟨rfl,s,rfl,by omega,by omega⟩⟩
   simp[c8,c,bne,nK,d]
   simp[bne,nK,d]
   left
   refine⟨_,_,?_,?_,⟨rfl,s+1,rfl,by omega,by omega⟩,by simp;omega⟩
   simp_all [c8,bne,nK]
   simp[bne,nK,d]
   right
   have c1:decide ((s:L)<ag data)=I:=by simp;omega
   rw[c1]
   exact⟨_,_,by simp,by simp,⟨rfl,s,rfl,by omega,by omega⟩⟩) (x:=(j:L)) (y:=(j:L)) ⟨rfl,j,rfl,by omega,u⟩ (by simp;omega)
  grind
 have C:∀j:U,j≤Y data→∃r:U,bR (K5 data) (j:L)=J (r:L)∧bR (LC data) (j:L)=J (r:L)∧j≤r∧r≤Y data:=by
  intro j u;have:=qI (f:=K5 data) (g:=LC data) (λx y=>x=y∧∃s:U,x=(s:L)∧j≤s∧s≤Y data) (λr q=>r=q∧∃s:U,r=(s:L)∧j≤s∧s≤Y data) (λx=>Y data-x.toNat) (λx y h=>by
   obtain⟨rfl,s,rfl,h1,h2⟩:=h
   have o:=di (i:=s) (by omega)
   unfold K5 LC iW au aK ah cz ay aH aA fE de;dsimp-proj only[aj]
   rw[o]
   rcases js s (Y data) with c|c
   have c1:decide ((s:L)<ag data)=W:=by simp;omega
   have f3:=auJ data[s]
   unfold aZ at f3
   rw[c1,lL c]
   simp only[Int.ofNat_eq_natCast,f3,aG,bne,nK,b44,sk]
   by_cases a:data[s]=34∨data[s]=44∨data[s]=10
   right
   refine⟨_,_,?_,?_,⟨rfl,s,rfl,by omega,by omega⟩⟩
   rcases a with a|a|a<;>simp[c8,c,a]
   grind [c8]
   left
   have h3:¬data[s]=34∧¬data[s]=44∧¬data[s]=10:=⟨λe=>a (.inl e),λe=>a (.inr (.inl e)),λe=>a (.inr (.inr e))⟩
   refine⟨_,_,?_,?_,⟨rfl,s+1,rfl,by omega,by omega⟩,by simp;omega⟩
   simp[c8,c,h3]
   simp[c8,c,h3]
   right
   have c1:decide ((s:L)<ag data)=I:=by simp;omega
   rw[c1]
   exact⟨_,_,by simp,by simp,⟨rfl,s,rfl,by omega,by omega⟩⟩) (x:=(j:L)) (y:=(j:L)) ⟨rfl,j,rfl,by omega,u⟩ (by simp;omega)
  grind
 have E:∀r:U,r≤Y data→∃ok:az,(∀b:az,(if((r:L)==ag data||decide (0≤(r:L))&&(bT ((r:L)).toNat (Y data)&&(aZ (data.getD ((r:L)).toNat 0)==44||decide (0≤(r:L))&&bT ((r:L)).toNat (Y data))))=W then J (if((r:L)==ag data)=W then(r:L)else if(aZ (data.getD ((r:L)).toNat 0)==44)=W then(r:L)else(r:L),if((r:L)==ag data)=W then b else if(aZ (data.getD ((r:L)).toNat 0)==44)=W then b else b,(r:L)==ag data||(aZ (data.getD ((r:L)).toNat 0)==44||aZ (data.getD ((r:L)).toNat 0)==10))else O)=J ((r:L),b,ok))∧((r:L)==ag data||(aZ (data.getD ((r:L)).toNat 0)==44||aZ (data.getD ((r:L)).toNat 0)==10))=ok∧(ok=W→Vh data r):=by
  intro r A;refine⟨_,λb=>?_,rfl,λh=>?_⟩;rw[aF];simp;rcases js r (Y data) with h|h
  simp[c8,h];have:r=Y data:=by omega
  simp[this];unfold Vh;rcases js r (Y data) with p|K
  right;rw[lL p,b44,sk]at h;rw[eM p];simp at h;grind;left;omega
 unfold K6 LD aX au aK ah cz ay de;dsimp-proj only[aj];by_cases d:k<Y data∧data[k]?=J 34;let⟨h1,h2⟩:=d;have c1:decide ((k:L)<ag data)=W:=by simp;omega
 have a:aZ (data.getD ((k:L)).toNat 0)=34:=by rw[lL h1];rw[eM h1]at h2;rw[ra h2];rfl
 have o:=di (i:=k) (by omega);let⟨r,v,w,h3,z⟩:=B (k+1) (by omega);simp only[c1,Nh h1,a,o,v,w,aG];rcases js r (Y data) with A|A
 have m:decide ((r:L)≥ag data)=I:=by simp;omega
 have t:=di (i:=r) (by omega);let⟨ok,f1,f2,f3⟩:=E (r+1) (by omega);refine⟨r+1,W,ok,?_,?_,λh=>⟨by omega,by omega,f3 h,λ_=>by omega⟩⟩;rw[m,t];exact f1 W;rw[m,t];grind;have m:decide ((r:L)≥ag data)=W:=by simp;omega
 exact⟨0,W,I,by rw[m];rfl,by rw[m];rfl,λh=>by cases h⟩;let⟨r,v,w,h3,z⟩:=C k hk;have a:(decide ((k:L)<ag data)&&aZ (data.getD ((k:L)).toNat 0)==34)=I:=by
  rcases js k (Y data) with h1|h1
  grind [lL,nK];simp;omega
 have D:(!decide ((k:L)<ag data)||decide (0≤(k:L))&&bT ((k:L)).toNat (Y data))=W:=by
  rcases js k (Y data) with h1|h1
  rw[Nh h1];simp;simp;omega
 let⟨ok,f1,f2,f3⟩:=E r z;simp only[a,D,v,w,aG];refine⟨r,I,ok,?_,?_,λh=>⟨h3,z,f3 h,λh=>by cases h⟩⟩;exact f1 I;grind
def auL{d:U}(h:d<10):np [aby IntKind.u8 (aby a7 (48+(d:L)))]=[kC (48+d)]:=by
 have:d=0∨d=1∨d=2∨d=3∨d=4∨d=5∨d=6∨d=7∨d=8∨d=9:=by omega
 rcases this with rfl|rfl|rfl|rfl|rfl|rfl|rfl|rfl|rfl|rfl<;>rfl
def auM:∀(u:U)(f:U)(acc:M ao),u<f→u≤1000000000→Y acc+u≤2000000000→eD K1 f ((u:L),acc)=J (zS u++acc):=by
 intro u;induction u using Nat.strongRecOn with
 |_ u b=>
  intro f acc m n a;obtain⟨f,rfl⟩:∃g,f=g+1:=⟨f-1,by omega⟩;have c:(u:L).tdiv 10=((u/10:U):L):=by grind
  have e:(u:L).tmod 10=((u%10:U):L):=by grind
  have i:aby a7 (((u/10:U):L))=((u/10:U):L):=eh (by omega);have j:(W&&decide (1+Y acc≤1152921504606846976))=W:=by grind
  have k:=auL (d:=u%10) (Nat.mod_lt _ (by decide));rw[zS];simp only[eD,K1,c,e,i,k,j,bI,aj,au,ah,bd,aH,aA,c9,bv];by_cases h:u<10;grind;have l:(((u/10:U):L)==0)=I:=by grind
  rw[dif_neg h,l];simp only[bL,ch];rw[b (u/10) (by omega) f _ (by omega) (by omega) (by grind)];simp
def auN(u:U)(a:u≤1000000000):EH (u:L)=J (zS u):=by unfold EH aX;rw[show bR K1 ((u:L),[])=J (zS u++[])from auM u fuel [] (kQ a (by decide)) a (by simp;omega)];simp
def Vi(u:U)(a:u≤1000000000):yK (u:L)=J (zS u):=by
 unfold yK iw ah bd bv;have h:decide ((u:L)<0)=I:=jC (by omega);have b:oz (u:L) 0=(u:L):=by grind [oz]
 rw[h,b,auN u a];rfl
def afj(u:U)(a:u≤1000000000):strconv_Itoa (u:L)=J (zS u):=by grind [strconv_Itoa,Lib.itoa]
abbrev df:=az×M ao×M ao
def Vj{data:M ao}{P:M df}{a b c:U}(h1:a≤b)(h2:b≤c)(h3:c≤Y data)(d:Y P≤1073741824)(key:M ao):tG key (b:L) (c:L) (data,aT P,(a:L))=J (data,aT (P++[(I,[],(data.take b).drop a),(W,key,(data.take c).drop b)]),(c:L)):=by unfold tG au al jh;simp only[cw,gX];rw[aF (by simp;omega)];cases P<;>rfl
def Vk{data:M ao}{P:M df}{a b c:U}(h1:a≤b)(h2:b≤c)(h3:c≤Y data)(d:Y P≤1073741824)(key:M ao):yU (b:L) (c:L) key (data,(a:L),aT P)=J (data,(c:L),aT (P++[(I,[],(data.take b).drop a),(W,key,(data.take c).drop b)])):=by unfold yU au al jh;simp only[cw,gX];rw[aF (by simp;omega)];cases P<;>rfl
abbrev PI:=L×L×L×L×L×M ao×L×Q (M df)
abbrev RI:=L×L×L×L×M ao×Q (M df)×L
def RR(data:M ao)(rec:U)(W0:L)(k0:U)(x:PI)(y:RI):Prop:=∃(k n a:U)(P:M df)(b C T c d:L),k0≤k∧k≤Y data∧n≤k∧a≤k∧Y P≤2*k∧x=((k:L),(n:L),b,C,T,data,(a:L),aT P)∧y=((k:L),c,(n:L),d,data,aT P,(a:L))∧(rec=0→T=d∧0≤T∧T≤n∧(T≠0→C=c))∧(rec≠0→b=W0∧C=c)
def SR(data:M ao)(rec:U)(W0:L)(k0:U)(r:PI⊕PI)(q:(Q (M df)×L×L)⊕RI):Prop:=(∃(a e:L)(z:L×L×L×M ao×L×Q (M df)),e≠0∧r=.inl (a,e,z)∧q=.inl (O,a,e))∨∃(k n a:U)(P:M df)(b C T c d:L),k0≤k∧k≤Y data∧n≤k∧a≤k∧Y P≤2*k∧r=.inr ((k:L),(n:L),b,C,T,data,(a:L),aT P)∧q=.inr ((k:L),c,((n+1:U):L),d,data,aT P,(a:L))∧(rec=0→b=((n+1:U):L)∧T=d∧0≤T∧(T≠0→C=c))∧(rec≠0→b=W0∧C=c)
def auO{data:M ao}(hl:data.length≤67108864){rec:U}(hr:rec≤67108865){W0 W1 C1 T1:L}{s:RI}(D:s.2.1=W0)(E:s.2.2.2.1=(rec:L)){k0:U}{x:PI}{y:RI}(h:RR data rec W0 k0 x y):∃r q,bR (Sz (data,(),(rec:L),W1,C1,T1)) x=J r∧bR (EL data s) y=J q∧SR data rec W0 k0 r q:=by
 refine qI (RR data rec W0 k0) (SR data rec W0 k0) (λx=>data.length+1-x.1.toNat) (λx y h=>?_) h (kQ (xf _ _) (cA (by omega)));obtain⟨k,n,a,P,b,C,T,C',T',hk0,hk,hn,ha,hP,rfl,rfl,hz,F⟩:=h;let⟨e,q,ok,f1,f2,f3⟩:=auK hk hl;unfold Sz EL cr au ah cz ay bd aH aA de;dsimp-proj only[aj];simp only[f1,f2,aG,D,E];cases ok with
 |false=>right;exact⟨_,_,rfl,by simp,.inl ⟨_,2,_,by decide,rfl,rfl⟩⟩|true=>
  let⟨g1,g2,g3,g4⟩:=f3 rfl;have Y:=di (i:=n) (by omega);have Z:=di (i:=e) (by omega);have wk:=di (i:=k) (by omega)
  have c:∀(g:U)(d:M df)(l m T2 o p:L),g≤e→d.length≤2*e+2→d.length≤2*k+2→(d.length≤2*k∨k+2≤e)→(rec=0→l=((n+1:U):L)∧T2=p∧0≤T2∧T2≤((n+1:U):L)∧(T2≠0→m=o))→(rec≠0→l=W0∧m=o)→(∃G y',(if((e:L)==ag data||decide (0≤(e:L))&&bT ((e:L)).toNat data.length)=W then if((e:L)==ag data||aZ (data.getD ((e:L)).toNat 0)==10)=W then(J (mm (mm ((e:L),(n:L),l,m,T2,data,(g:L),aT d))):Q (PI⊕PI⊕PI))else J (mo (((e+1:U):L),((n+1:U):L),l,m,T2,data,(g:L),aT d))else O)=J (.inl G)∧(if(decide ((e:L)≥ag data)||decide (0≤(e:L))&&bT ((e:L)).toNat data.length)=W then if(decide ((e:L)≥ag data)||aZ (data.getD ((e:L)).toNat 0)==10)=W then(J (mm (mm ((e:L),o,((n+1:U):L),p,data,aT d,(g:L)))):Q (RI⊕(Q (M df)×L×L)⊕RI))else J (mo (((e+1:U):L),o,((n+1:U):L),p,data,aT d,(g:L)))else O)=J (.inl y')∧RR data rec W0 k0 G y'∧data.length+1-G.1.toNat<data.length+1-((k:L)).toNat)∨
    ∃r q,(if((e:L)==ag data||decide (0≤(e:L))&&bT ((e:L)).toNat data.length)=W then
       if((e:L)==ag data||aZ (data.getD ((e:L)).toNat 0)==10)=W then(J (mm (mm ((e:L),(n:L),l,m,T2,data,(g:L),aT d))):Q (PI⊕PI⊕PI))else J (mo (((e+1:U):L),((n+1:U):L),l,m,T2,data,(g:L),aT d))else O)=J (.inr r)∧
     (if(decide ((e:L)≥ag data)||decide (0≤(e:L))&&bT ((e:L)).toNat data.length)=W then
       if(decide ((e:L)≥ag data)||aZ (data.getD ((e:L)).toNat 0)==10)=W then(J (mm (mm ((e:L),o,((n+1:U):L),p,data,aT d,(g:L)))):Q (RI⊕(Q (M df)×L×L)⊕RI))else J (mo (((e+1:U):L),o,((n+1:U):L),p,data,aT d,(g:L)))else O)=J (.inr q)∧SR data rec W0 k0 r q:=by
   intro g d l m T2 o p h1 h2 h3 h4 t h6
   by_cases u:e=data.length∨data[e]?=J 10
   right
   have c1:((e:L)==ag data||aZ (data.getD ((e:L)).toNat 0)==10)=W:=by
    rcases u with h|h
    simp[h];let⟨v,h⟩:=iO.1 h;rw[lL v,h];simp[aZ]
   have c2:(decide ((e:L)≥ag data)||aZ (data.getD ((e:L)).toNat 0)==10)=W:=by grind
   refine⟨_,_,?_,?_,.inr ⟨e,n,g,d,l,m,T2,o,p,by omega,g2,by omega,h1,by omega,rfl,rfl,λh=>⟨(t h).1,(t h).2.1,(t h).2.2.1,(t h).2.2.2.2⟩,h6⟩⟩
   rw[aF,aF c1]
   rcases js e data.length with h|h
   simp[c8,h]
   simp_all
   simp_all [c8]
   left
   have v:e<data.length:=by omega
   have H:¬data[e]=10:=λh=>u (.inr (by grind))
   have c0:((e:L)==ag data)=I:=by simp;omega
   have c0':decide ((e:L)≥ag data)=I:=by simp;omega
   have c1:(aZ (data.getD ((e:L)).toNat 0)==10)=I:=by rw[lL v,sk];simpa using H
   refine⟨_,_,?_,?_,⟨e+1,n+1,g,d,l,m,T2,o,p,by omega,by omega,by omega,by omega,by omega,rfl,rfl,λh=>⟨(t h).2.1,(t h).2.2.1,(t h).2.2.2.1,(t h).2.2.2.2⟩,h6⟩,by simp;omega⟩
   grind [c8]
   simp_all [c8]
  rcases Nat.eq_zero_or_pos rec with A|A
  subst A;let⟨K,N,z3,z4⟩:=hz rfl;subst K;have c1:decide (0≤(k:L)∧(k:L)≤(e:L)∧(e:L)≤ag data)=W:=by simp;omega
  have hH:LI (k:L) (e:L) (n:L) (data,(),((0:U):L),b,C,T) (data,(a:L),aT P)=J (((n+1:U):L),if decide (bu (k:L) (e:L) data=[116,101,120,116])=W then(n:L)else C,if decide (bu (k:L) (e:L) data=[116,101,120,116])=W then T+1 else T):=by grind [LI,cf]
  have wT:aby a7 (T+1)=T+1:=eh (by omega);have d0:(((0:U):L)==0)=W:=rfl;have d1:decide (((0:U):L)>0)=I:=rfl;simp only[d0,d1,hH,c1,aG,kF,sB,HP,uz,Bool.or_false,w6,zQ,xg,bL,bI,ch,Y,Z,wT];by_cases ht:bu (k:L) (e:L) data=[116,101,120,116];simp only[ke ht,bI];exact c a P _ _ _ _ _ (by omega) (by omega) (by omega) (by omega) (λ_=>⟨rfl,rfl,by omega,by omega,λ_=>rfl⟩) (λh=>cO rfl h);simp only[jC ht,bL,ch];exact c a P _ _ _ _ _ (by omega) (by omega) (by omega) (by omega) (λ_=>⟨rfl,rfl,N,by omega,z4⟩) (λh=>cO rfl h);let⟨K,N⟩:=F (by omega);subst K;subst N;have d0:(((rec:U):L)==0)=I:=by grind
  have d1:decide (((rec:U):L)>0)=W:=by simp;omega
  unfold Sy cr ah ay bd;simp only[d0,d1,kF,sB,HP,uz,Bool.or_false,w6,zQ,xg,bL,bI,ch,Y,Z,wk];by_cases j:(decide ((n:L)≥b)||(n:L)==C&& !q)=W;right;simp only[j,bI,aG];exact⟨_,_,rfl,rfl,.inl ⟨_,2,_,by decide,rfl,rfl⟩⟩;simp only[Bool.not_eq_true]at j;simp only[j,bL,ch];by_cases B:(n:L)=C;have hq:q=W:=by grind
  have h2:=g4 hq;have R:aby a7 ((e:L)-1)=((e-1:U):L):=by grind [cf]
  have c3:decide (0≤((k+1:U):L)∧((k+1:U):L)≤((e-1:U):L)∧((e-1:U):L)≤ag data)=W:=by simp;omega
  have w:((n:L)==C)=W:=by simpa using B
  have z:((n:L) !=C)=I:=by simpa[bne]using B
  let⟨f,cuts,at',S,D1,D2,D3,D4,D5⟩:=afh (raw:=(data.take (e-1)).drop (k+1)) (by simp;omega);simp only[w,z,R,c3,bI,bL,ch,gX,D1,D2,aG];by_cases V:S=0;subst V;simp only[Vi rec (by omega),afj rec (by omega),Vj (show a≤k+1 by omega) (show k+1≤e-1 by omega) (show e-1≤data.length by omega) (show P.length≤1073741824 by omega),Vk (show a≤k+1 by omega) (show k+1≤e-1 by omega) (show e-1≤data.length by omega) (show P.length≤1073741824 by omega),aG,sE,bL,ch];exact c (e-1) _ _ _ _ _ _ (by omega) (by simp;omega) (by simp;omega) (.inr h2) (λh=>by omega) (λ_=>⟨rfl,rfl⟩);have X:(S !=0)=W:=by simpa[bne]using V
  right;simp only[X,bI,aG];exact⟨_,_,rfl,rfl,.inl ⟨_,S,_,V,rfl,rfl⟩⟩;have w:((n:L)==C)=I:=by simpa using B
  have z:((n:L) !=C)=W:=by simpa[bne]using B
  simp only[w,z,bI,bL,ch,aG,sE];exact c a P _ _ _ _ _ (by omega) (by omega) (by omega) (by omega) (λh=>by omega) (λ_=>⟨rfl,rfl⟩)
abbrev PO:=L×M ao×L×Q (M df)×L×L×L×L
def RO(data:M ao)(x:RI)(y:PO):Prop:=∃(k rec a:U)(P:M df)(b C c d e:L),k≤Y data+1∧rec≤k∧a≤k∧a≤Y data∧Y P≤2*k∧(rec=0→k=0∧e=0)∧(rec≠0→b=c∧C=d)∧x=((k:L),b,C,(rec:L),data,aT P,(a:L))∧y=(((min k (Y data):U):L),data,(a:L),aT P,(rec:L),c,d,e)
def SO(data:M ao)(r:(Q (M df)×L×L)⊕M ao×Q (M df)×L)(q:(Q (M df)×L×L)⊕M ao×L×Q (M df)×L×L×L×L):Prop:=(∃a e:L,e≠0∧r=.inl (O,a,e)∧q=.inl (O,a,e))∨∃(a:U)(P:M df)(z:L×L×L×L),a≤Y data∧Y P≤2*Y data+2∧r=.inr (data,aT P,(a:L))∧q=.inr (data,(a:L),aT P,z)
def auP{data:M ao}(T:data.length≤67108864):∃r q,bR (EM data) (0,0,-1,0,data,O,0)=J r∧bR (SB data) (0,data,0,O,0,0,0,0)=J q∧SO data r q:=by
 refine qI (RO data) (SO data) (λx=>data.length+2-x.1.toNat) (λx y h=>?_) ⟨0,0,0,[],0,-1,0,0,0,by omega,by omega,by omega,by omega,by simp,λ_=>⟨rfl,rfl⟩,λh=>cO rfl h,rfl,by simp[aT]⟩ (kQ (xf _ _) (kQ (show data.length+2≤67108866 by omega) (by decide)));obtain⟨k,rec,a,P,c,C,u,v,w,hk,K,A,V,hP,t,g,rfl,rfl⟩:=h;unfold EM SB aX aK ah ay aH aA;dsimp-proj only[aj];by_cases d:rec=0∨k<data.length;have j:k≤data.length:=by grind
 have X:min k data.length=k:=Nat.min_eq_left j;have c1:(((rec:L)==0)||decide ((k:L)<ag data))=W:=by rcases d with h|h<;>simp[h]
 have B:(decide ((k:L)<ag data)||((rec:L)==0))=W:=by rcases d with h|h<;>simp[h]
 unfold SA aX ah ay;simp only[X,c1,B,bI];let⟨r,q,Y,Z,hS⟩:=auO T (rec:=rec) (by omega) (W0:=c) (W1:=u) (C1:=v) (T1:=w) (s:=((k:L),c,C,(rec:L),data,aT P,(a:L))) rfl rfl (k0:=k) (x:=((k:L),0,u,v,w,data,(a:L),aT P)) (y:=((k:L),C,0,0,data,aT P,(a:L))) ⟨k,0,a,P,u,v,w,C,0,by omega,j,by omega,A,by omega,rfl,rfl,λh=>⟨(t h).2,by rw[(t h).2];decide,by rw[(t h).2];decide,λh'=>cO (t h).2 h'⟩,λh=>⟨(g h).1.symm,(g h).2.symm⟩⟩;rw[Y,Z];rcases hS with⟨b,e,z,D,rfl,rfl⟩|⟨k',n,N,R,E,F,l,C2,T2,g1,g2,g3,g4,g5,rfl,rfl,g6,g7⟩
 right;have he':(e !=0)=W:=by simpa[bne]using D
 exact⟨_,_,rfl,by simp[D],.inl ⟨b,e,D,rfl,rfl⟩⟩;have wk:aby a7 ((k':L)+1)=((k'+1:U):L):=by grind [cf]
 have wn:=di (i:=n) (by omega);have wr:=di (i:=rec) (by omega);have m:jw ((k'+1:U):L) (ag data)=((min (k'+1) data.length:U):L):=by unfold jw;rw[dv];split<;>omega
 simp only[aG,pz,wk,wn,wr,m];rcases Nat.eq_zero_or_pos rec with o|o
 subst o;let⟨G,H,z3,z4⟩:=g6 rfl;subst G;subst H;have d0:(((0:U):L)==0)=W:=rfl;have d1:decide (((0:U):L)>0)=I:=rfl;have d2:decide (((n+1:U):L)<((n+1:U):L))=I:=by simp
 simp only[d0,d1,d2,HP,uz,bL,bI,ch];by_cases f:l=0;right;subst f;exact⟨_,_,rfl,rfl,.inl ⟨0,6,by decide,rfl,rfl⟩⟩;have t0:(l==0)=I:=by simpa using f
 simp only[t0,bL,ch];by_cases p:l>1;right;simp only[ke p,bI];exact⟨_,_,rfl,rfl,.inl ⟨0,5,by decide,rfl,rfl⟩⟩;left;simp only[jC p,bL,ch,aG,sE];exact⟨_,_,rfl,rfl,⟨k'+1,0+1,N,R,_,C2,_,F,l,by omega,by omega,by omega,by omega,by omega,λh=>by omega,λ_=>⟨rfl,(z4 f).symm⟩,rfl,rfl⟩,by simp;omega⟩;let⟨G,H⟩:=g7 (by omega);subst G;subst H;have d0:(((rec:U):L)==0)=I:=by grind
 have d1:decide (((rec:U):L)>0)=W:=by simp;omega
 simp only[d0,d1,HP,uz,bL,bI,ch];by_cases S:((n+1:U):L)<E;right;simp only[ke S,bI];exact⟨_,_,rfl,rfl,.inl ⟨k,2,by decide,rfl,rfl⟩⟩;left;simp only[jC S,bL,ch,aG,sE];exact⟨_,_,rfl,rfl,⟨k'+1,rec+1,N,R,E,F,E,F,l,by omega,by omega,by omega,by omega,by omega,λh=>by omega,λ_=>⟨rfl,rfl⟩,rfl,rfl⟩,by simp;omega⟩;right;have hr:rec≠0:=λh=>d (.inl h);have c0:(((rec:U):L)==0)=I:=by grind
 have c1:decide ((k:L)<ag data)=I:=by simp;omega
 have B:decide (((min k data.length:U):L)<ag data)=I:=by simp;omega
 simp only[c0,c1,B];exact⟨_,_,rfl,rfl,.inr ⟨a,P,_,V,by omega,rfl,rfl⟩⟩
def auQ{data:M ao}(f:Y data≤65536):∃P at' e,Bt data=J (P,at',e)∧Fp data=J (P,at',e)∧Y (X P [])≤2*Y data+3:=by
 let⟨r,q,b,d,h⟩:=auP (data:=data) (by omega);unfold Bt Fp yS aX aK;have c:decide (ag data>65536)=I:=by simp;omega
 rw[b,c];simp only[bL,ch,aG,d];rcases h with⟨a,e,g,rfl,rfl⟩|⟨a,P,z,i,j,rfl,rfl⟩
 simp_all;unfold tF yT au al bv;simp only[aG,pz,cw];rw[aF (by simp;omega),aF (by simp;omega)];simp_all
theorem Ni{α:Type}[DecidableEq α]{f:L→Q (L⊕az⊕bV)}{a b:M α}(d:a.length=b.length)(hn:a.length<fuel) (step:∀i(h1:i<a.length)(h2:i<b.length),f (i:L)=if a[i]=b[i]then J (.inl ((i+1:U):L))else J (.inr (.inl I)))(stop:f (a.length:L)=J (.inr (.inr ()))):(aq (bR f 0) λr1=>dc r1 (λc=>J c) λ_=>J W)=J (decide (a=b)):=by have:=aca (f:=f) (λi=>(i:L)) a.length (λi=>a[i]?=b[i]?) (.inl I) (.inr ()) (λi hi hp=>by grind) (λi hi hp=>by grind) stop hn;by_cases h:a=b;simp_all;rw[show bR f 0=J (.inl I)from this.2 λe=>h (List.ext_getElem? λi=>by grind),jC h];rfl
def afk(x y:df):(x.1==y.1&&(decide (x.2.1=y.2.1)&&(decide (x.2.2=y.2.2)&&W)))=decide (x=y):=by grind
def auR{a b:Q (M df)}(f:Y (X a [])≤1073741824):K8 a b=J (decide (X a []=X b [])):=by
 unfold K8 aX ah al;by_cases d:Y (X a [])=Y (X b []);have c:(ag (X a []) !=ag (X b []))=I:=by simp[bne];omega
 rw[c];refine(Ni d (cM (cA (by omega))) (λi h1 h2=>?_) ?_);unfold Sj aM au aK ah al ay aH aA;rw[dQ h1,cW h1,cW h2,afk,aF (by simp;omega),eh (by omega)];by_cases h:(X a [])[i]=(X b [])[i]<;>simp[h];unfold Sj aM au aK ah al ay aH aA;rw[gb];have c:(ag (X a []) !=ag (X b []))=W:=by simp[bne];omega
 rw[c,jC λe=>d (bX wX e)];rfl
def auS{a b:Q (M df)}(f:Y (X a [])≤1073741824):LL a b=J (decide (X a []=X b [])):=by
 unfold LL aX ah al;by_cases d:Y (X a [])=Y (X b []);have c:(ag (X a []) !=ag (X b []))=I:=by simp[bne];omega
 rw[c];refine(Ni d (cM (cA (by omega))) (λi h1 h2=>?_) ?_);unfold SC aM au aK ah al ay aH aA;rw[dQ h1,cW h1,cW h2,afk,aF (by simp;omega),eh (by omega)];by_cases h:(X a [])[i]=(X b [])[i]<;>simp[h];unfold SC aM au aK ah al ay aH aA;rw[gb];have c:(ag (X a []) !=ag (X b []))=W:=by simp[bne];omega
 rw[c,jC λe=>d (bX wX e)];rfl
def dO(l:M df):M ao:=l.flatMap λq=>q.2.2
def auT(l:M df)(i:U):Y (dO (l.take i))≤Y (dO l):=by grind [dO,nQ]
def GH{d:L×Q (M df)}(h1:Y (X d.2 [])≤1073741824)(h2:Y (dO (X d.2 []))≤1073741824):yJ d=J (dO (X d.2 [])):=by
 unfold yJ aX;have:bR (EG d) ([],0)=J (dO (X d.2 [])):=by
  refine eS (f:=EG d) (Y (X d.2 [])) (λi=>(dO ((X d.2 []).take i),(i:L))) (λi hi=>?_) ?_ (cM (cA (by omega)));have a:dO ((X d.2 []).take (i+1))=dO ((X d.2 []).take i)++(X d.2 [])[i].2.2:=by unfold dO;rw[iP hi,xb];simp
  have b:=auT (X d.2 []) (i+1);rw[a]at b;unfold EG aM au aK al ay aH aA c9;rw[dQ hi,cW hi,aF (by simp at b ⊢;omega),a,eh (by omega)];rfl;unfold EG aM au aK al ay aH aA c9;simp_all
 rw[this];rfl
theorem B6{d:L×Q (M df)}(h1:(d.2.getD []).length≤1073741824)(h2:(dO (d.2.getD [])).length≤1073741824):tK d=J (dO (d.2.getD [])):=by unfold tK;rw[aF (by rw[Bool.and_eq_true,iJ,iJ];exact⟨uy h1 (by decide),uy h2 (by decide)⟩)];rfl
abbrev afl:=Q (M aN)×Q (M L)×Q (M L)×L×L
def auU(a:Q (M aN))(b d:Q (M L))(e:L×L)(c off:L):BL c off (a,b,d,e)=match r7 c off (a,b,d)with|some (r,x,y,z)=>J (r,x,y,z,e)|none=>O:=by
 grind [BL,r7,Fj,qD,aG]
def Vl(a:Q (M aN))(b d:Q (M L))(e:L×L):Fi (a,b,d,e)=match qC (a,b,d)with|some (x,y,z)=>J (x,y,z,e)|none=>O:=by
 grind [Fi,qC]
def auV(a:Q (M aN))(b d:Q (M L))(e:L×L)(x:aN)(off:L):Fk x off (a,b,d,e)=match tM x off (a,b,d)with|some (r,x,y,z)=>J (r,x,y,z,e)|none=>O:=by
 unfold Fk tM au ah al bv
 rw[show Fj I (a,b,d,e)=qD I (a,b,d)from rfl,Vl]
 cases qD I (a,b,d)with
 |none=>rfl|some r=>
  simp only[aG];cases r;simp only[bL,ch];cases qC (a,b,d)with|none=>rfl|some q=>let⟨c,g,f⟩:=q;by_cases h1:Y (X c [])≤68719476735<;>by_cases h2:Y (X f [])≤68719476735<;>simp[h1,h2]
  rfl
theorem b9(c:ao):(aZ c==9)=(c==9):=pL rfl
theorem Vm(c:ao):(aZ c==32)=(c==32):=pL rfl
def b92(c:ao):(aZ c==92)=(c==92):=pL rfl
def afn(c:ao):(aZ c==123)=(c==123):=pL rfl
def auW(c:ao):(aZ c==110)=(c==110):=pL rfl
def auX(c:ao):(aZ c==116)=(c==116):=pL rfl
def auY(c:ao):(aZ c==115)=(c==115):=pL rfl
def auZ(c:ao):(aZ c==114)=(c==114):=pL rfl
def au0{raw:M ao}{k:U}(hk:k+2≤Y raw)(r:Y raw≤67108864):∃n:U,2≤n∧k+n≤Y raw∧bR (KZ (raw.drop k)) 2=J (n:L)∧bR (Lv raw) ((k+2:U):L)=J ((k+n:U):L):=by
 have hd:Y (raw.drop k)=Y raw-k:=by simp
 have:=qI (f:=KZ (raw.drop k)) (g:=Lv raw) (λx y=>∃n:U,2≤n∧k+n≤Y raw∧x=(n:L)∧y=((k+n:U):L)) (λx y=>∃n:U,2≤n∧k+n≤Y raw∧x=(n:L)∧y=((k+n:U):L)) (λx=>Y raw-k-G x) (λx y h=>by
  obtain⟨n,h1,h2,rfl,rfl⟩:=h
  unfold KZ Lv Sv iW au aK ah cz ay aH aA fE de
  have j:=di (i:=n) (by omega)
  have l:aby a7 (((k+n:U):L)+1)=((k+(n+1):U):L):=by grind [cf]
  rcases js (k+n) (Y raw) with hn|hn
  have a:n<Y (raw.drop k):=by omega
  have c1:decide ((n:L)<ag (raw.drop k))=W:=by simp;omega
  have b:decide (((k+n:U):L)<ag raw)=W:=by simp;omega
  have m:bT (k+n) (Y raw)=W:=(c8 _ _).2 hn
  have o:bT n (Y (raw.drop k))=W:=(c8 _ _).2 a
  have e:H (raw.drop k) n 0=raw[k+n]:=by grind
  have p:H raw (k+n) 0=raw[k+n]:=by grind
  have q:fW raw[k+n].toNat=aZ raw[k+n]:=rfl
  simp only[c1,b,fq,e,p,m,o,q,Vm,b9,aG,j,l]
  generalize raw[k+n]=c
  by_cases h:c=32∨c=9
  left
  refine⟨_,_,?_,?_,⟨n+1,by omega,by omega,rfl,rfl⟩,by simp;omega⟩
  rcases h with h|h<;>simp[h]
  grind
  right
  have d:¬c=32∧¬c=9:=⟨λe=>h (.inl e),λe=>h (.inr e)⟩
  refine⟨_,_,?_,?_,⟨n,h1,h2,rfl,rfl⟩⟩
  simp[d]
  simp[d];omega
  right
  have c1:decide ((n:L)<ag (raw.drop k))=I:=by simp;omega
  have b:decide (((k+n:U):L)<ag raw)=I:=by simp;omega
  rw[c1,b]
  exact⟨_,_,by simp,by simp,⟨n,h1,h2,rfl,rfl⟩⟩) (x:=2) (y:=((k+2:U):L)) ⟨2,by omega,hk,rfl,rfl⟩ (kQ (uy (xf _ _) (xf _ _)) (cM (cA (by omega))))
 grind
def B7(d:ao):Q ao:=if d=110 then J 10 else if d=116 then J 9 else if d=115 then J 32 else if d=114 then J 13 else if d=92 then J 92 else if d=123 then J 123 else O
def au1(d:ao):Lu (aZ d)=J (match B7 d with|some b=>(aZ b,W)|none=>(0,I)):=by unfold Lu B7 ah;rw[auW,auX,auY,auZ,b92,afn];by_cases h1:d=110;simp[h1];rfl;by_cases h2:d=116;simp[h2];rfl;by_cases h3:d=115;simp[h3];rfl;by_cases a:d=114;simp[a];rfl;grind
def au2(d:ao)(r:M ao):bR (ED (92::d::r)) 0=J (match B7 d with|some b=>.inl (2,1,[b],0)|none=>.inr ()):=by
 unfold B7;by_cases h1:d=110;subst h1;kernel_rfl;by_cases h2:d=116;subst h2;kernel_rfl;by_cases h3:d=115;subst h3;kernel_rfl;by_cases a:d=114;subst a;kernel_rfl;by_cases e:d=92;subst e;kernel_rfl;by_cases g:d=123;subst g;kernel_rfl;simp only[h1,h2,h3,a,e,g,ch];refine eS (f:=ED (92::d::r)) 6 (λi=>(i:L)) (λi hi=>?_) (by unfold ED cr au aK ah cz ay aH aA fE bv;dsimp-proj only[aj];rfl) (by decide);have hn:bT 1 (Y (92::d::r))=W:=(c8 _ _).2 (by simp);have h:i=0∨i=1∨i=2∨i=3∨i=4∨i=5:=by omega
 have q:∀c:ao,d≠c→(aZ d==aZ c)=I:=λc j=>zn j;unfold ED cr au aK ah cz ay aH aA fE bv;dsimp-proj only[aj];simp only[hn,List.getD_cons_succ,pX];rcases h with rfl|rfl|rfl|rfl|rfl|rfl
 rw[show aZ (H (H ([[110,10],[116,9],[115,32],[114,13],[92,92],[123,123]]:M (M ao)) (G ((0:U):L)) []) 0 0)=aZ 110 from rfl,q 110 h1];rfl;rw[show aZ (H (H ([[110,10],[116,9],[115,32],[114,13],[92,92],[123,123]]:M (M ao)) (G ((1:U):L)) []) 0 0)=aZ 116 from rfl,q 116 h2];rfl;rw[show aZ (H (H ([[110,10],[116,9],[115,32],[114,13],[92,92],[123,123]]:M (M ao)) (G ((2:U):L)) []) 0 0)=aZ 115 from rfl,q 115 h3];rfl;rw[show aZ (H (H ([[110,10],[116,9],[115,32],[114,13],[92,92],[123,123]]:M (M ao)) (G ((3:U):L)) []) 0 0)=aZ 114 from rfl,q 114 a];rfl;rw[show aZ (H (H ([[110,10],[116,9],[115,32],[114,13],[92,92],[123,123]]:M (M ao)) (G ((4:U):L)) []) 0 0)=aZ 92 from rfl,q 92 e];rfl;rw[show aZ (H (H ([[110,10],[116,9],[115,32],[114,13],[92,92],[123,123]]:M (M ao)) (G ((5:U):L)) []) 0 0)=aZ 123 from rfl,q 123 g];rfl
def pM(s:M ao):Q (ao×U):=if[38,108,116,59].isPrefixOf s then J (60,4)else if[38,103,116,59].isPrefixOf s then J (62,4)else if[38,97,109,112,59].isPrefixOf s then J (38,5) else if[38,108,98,59].isPrefixOf s then J (123,4)else if[38,114,98,59].isPrefixOf s then J (125,4)else O
def au3(s:M ao):Lp s=J (match pM s with|some (c,n)=>(aZ c,(n:L),W)|none=>(0,0,I)):=by unfold Lp pM ah;simp only[GC,aG];split;rfl;split;rfl;split;rfl;split;rfl;split<;>rfl
def GI(s:M ao):vY s 0=aq (nE s [38,108,116,59]) λr1=>if r1=W then J (.inr (.inl (4,1,[60],0)))else J (.inl 1):=by kernel_rfl
def GJ(s:M ao):vY s 1=aq (nE s [38,103,116,59]) λr1=>if r1=W then J (.inr (.inl (4,1,[62],0)))else J (.inl 2):=by kernel_rfl
def GL(s:M ao):vY s 2=aq (nE s [38,97,109,112,59]) λr1=>if r1=W then J (.inr (.inl (5,1,[38],0)))else J (.inl 3):=by kernel_rfl
def GN(s:M ao):vY s 3=aq (nE s [38,108,98,59]) λr1=>if r1=W then J (.inr (.inl (4,1,[123],0)))else J (.inl 4):=by kernel_rfl
def GQ(s:M ao):vY s 4=aq (nE s [38,114,98,59]) λr1=>if r1=W then J (.inr (.inl (4,1,[125],0)))else J (.inl 5):=by kernel_rfl
def GR(s:M ao):vY s 5=J (.inr (.inr ())):=by kernel_rfl
def au4(s:M ao):bR (vY s) 0=J (match pM s with|some (c,n)=>.inl ((n:L),1,[c],0)|none=>.inr ()):=by have f:∃n,fuel=n+6:=⟨fuel-6,by simp_all [fuel]⟩;let⟨n,f⟩:=f;unfold bR pM;rw[f];cases a:rc [38,108,116,59] s;cases h1:rc [38,103,116,59] s;cases h2:rc [38,97,109,112,59] s;cases h3:rc [38,108,98,59] s;cases b:rc [38,114,98,59] s<;>simp only[eD,GI,GJ,GL,GN,GQ,GR,tX,aG,bL,ch,bI,a,h1,h2,h3,b];rfl;simp only[eD,GI,GJ,GL,GN,GQ,GR,tX,aG,bL,ch,bI,a,h1,h2,h3];rfl;simp only[eD,GI,GJ,GL,GN,GQ,GR,tX,aG,bL,ch,bI,a,h1,h2];rfl;simp only[eD,GI,GJ,GL,GN,GQ,GR,tX,aG,bL,ch,bI,a,h1];rfl;simp only[eD,GI,GJ,GL,GN,GQ,GR,tX,aG,bL,ch,bI,a];rfl
def wid(x:aN):U:=if x.1=1 then Y x.2.1 else 1
def cx(f:M aN):U:=(f.map wid).sum
def au5(x:aN):wid x≤Y x.2.1+1:=by grind [wid]
theorem zo(a b:M aN):cx (a++b)=cx a+cx b:=by simp[cx]
def qL(f:M aN):cx f≤bm f:=by
 induction f with|nil=>simp[cx,bm]|cons a r b=>have:=au5 a;simp[cx,bm]at b ⊢;omega
def Nj(f:M aN)(i:U):cx (f.take i)≤cx f:=by grind [zo,nQ]
theorem GU{f:M aN}{i:U}(h:i<Y f):cx (f.take (i+1))=cx (f.take i)+wid f[i]:=by rw[iP h,zo];simp[cx]
def afo(x:aN):Fw x=J (wid x:L):=by grind [Fw,wid]
theorem GV{o:Q (M aN)}(b:bm (X o [])≤1073741824):wj o=J (cx (X o []):L):=by
 have c:=eT (X o []);have h3:=qL (X o []);have:bR (Fy o) (0,0)=J (cx (X o []):L):=by refine eS (f:=Fy o) (Y (X o [])) (λi=>((cx ((X o []).take i):L),(i:L))) (λi hi=>?_) ?_ (cM (cA (by omega)));have d:=Nj (X o []) (i+1);have a:=GU hi;unfold Fy bJ aM al ay bd aH aA;rw[nC hi,cW hi,afo,aG,cf (by simp only[];omega) (by simp only[];omega),cf (by simp only[];omega) (by simp only[];omega),a];rfl;unfold Fy bJ aM al ay bd aH aA;simp_all
 unfold wj aX;rw[this];rfl
theorem sq{o:Q (M aN)}(b:bm (X o [])≤1073741824):nD o=J (cx (X o []):L):=by
 have c:=eT (X o []);have h3:=qL (X o []);have:bR (Es o) (0,0)=J (cx (X o []):L):=by refine eS (f:=Es o) (Y (X o [])) (λi=>((cx ((X o []).take i):L),(i:L))) (λi hi=>?_) ?_ (cM (cA (by omega)));have d:=Nj (X o []) (i+1);have a:=GU hi;unfold Es aM au aK ah al ay bd aH aA;dsimp-proj only[aj];rw[dQ hi,cW hi,aF (by simp;omega)];unfold wid at a;by_cases h:(X o [])[i].1=1;rw[aF h]at a;simp only[h,beq_self_eq_true,bI];rw[cf (by simp;omega) (by simp;omega),eh (by omega),a];simp;grind [cf];unfold Es aM au aK ah al ay bd aH aA;dsimp-proj only[aj];simp_all
 unfold nD aX;rw[this];rfl
def wJ(a b at':U)(x:aN):M aN:=if max a at'<min b (at'+wid x)then[(x.1,if x.1=1 then(x.2.1.take (min b (at'+wid x)-at')).drop (max a at'-at')else x.2.1,x.2.2)]else[]
def iZ(a b:U):U→M aN→M aN|_,[]=>[]|at',x::r=>wJ a b at' x++iZ a b (at'+wid x) r
def afp(a b:U):∀(f g:M aN)(at':U),iZ a b at' (f++g)=iZ a b at' f++iZ a b (at'+cx f) g|[],g,at'=>by simp[iZ,cx]|x::f,g,at'=>by rw[List.cons_append,iZ,iZ,afp a b f g,List.append_assoc];simp[cx,Nat.add_assoc]
def Vn(a b:U):∀(f:M aN)(at':U),Y (iZ a b at' f)≤Y f|[],at'=>by simp[iZ]|x::f,at'=>by have:=Vn a b f (at'+wid x);grind [iZ,wJ]
theorem afq(a b:U):∀(f:M aN)(at':U),bm (iZ a b at' f)≤bm f|[],at'=>by simp[iZ]|x::f,at'=>by have:=afq a b f (at'+wid x);grind [bm,iZ,wJ]
def afr{α:Type}(l:M α)(a b:U):bu (a:L) (b:L) l=(l.take b).drop a:=by unfold bu;simp
def afs(a b:U):oz (a:L) (b:L)=((max a b:U):L):=by grind [oz]
def aft(a b:U):jw (a:L) (b:L)=((min a b:U):L):=by grind [jw]
def afu{f:M aN}{i:U}(h:i<Y f)(a b:U):iZ a b 0 (f.take (i+1))=iZ a b 0 (f.take i)++wJ a b (cx (f.take i)) f[i]:=by rw[iP h,afp];simp[iZ]
def Vo{α:Type}(l:M α)(x:α):J (l++[x])=aT (l++[x]):=by cases l<;>rfl
theorem au6{o:Q (M aN)}(p:bm (X o [])≤1073741824){a b:U}(d:a≤b)(q:b≤cx (X o [])):bR (Fz o (a:L) (b:L)) (O,0,0)=J (aT (iZ a b 0 (X o []))):=by
 have r:=eT (X o []);have h3:=qL (X o []);refine eS (f:=Fz o (a:L) (b:L)) (Y (X o [])) (λi=>(aT (iZ a b 0 ((X o []).take i)),(cx ((X o []).take i):L),(i:L))) (λi hi=>?_) ?_ (cM (cA (by omega)));have s:=Nj (X o []) (i+1);have e:=GU hi;have t:=Vn a b ((X o []).take i) 0;have g:Y ((X o []).take i)≤Y (X o []):=by simp;omega
 rw[afu hi,e];unfold Fz wJ bJ aM au aK ah al ay bd aH aA bv;dsimp-proj only[aj];simp only[];rw[nC hi,cW hi,afo,aG];generalize u:(X o [])[i]=x at *;generalize cx ((X o []).take i)=at' at *;have j:aby a7 ((at':L)+(wid x:L))=((at'+wid x:U):L):=by grind [cf]
 have k:=di (i:=i) (by omega);have l:aby a7 (((max a at':U):L)-(at':L))=((max a at'-at':U):L):=by grind [cf]
 simp only[j,k,afs,aft,l,cw];by_cases m:max a at'<min b (at'+wid x);have n:aby a7 (((min b (at'+wid x):U):L)-(at':L))=((min b (at'+wid x)-at':U):L):=by grind [cf]
 have c:x.1=1→wid x=Y x.2.1:=λh=>by unfold wid;rw[aF h]
 simp only[n,afr];rw[aF,aF m,aF (by simp;omega),Vo];by_cases hk:x.1=1<;>simp[hk];by_cases hk:x.1=1;have:=c hk;simp[hk];omega;simp[hk];omega;grind;unfold Fz bJ aM au aK ah al ay bd aH aA bv;dsimp-proj only[aj];simp_all
theorem au7{o:Q (M aN)}(q:bm (X o [])≤1073741824){a b:U}(k:a≤b)(r:b≤cx (X o [])):bR (Eu o (a:L) (b:L)) (O,0,0)=J (aT (iZ a b 0 (X o []))):=by
 have s:=eT (X o []);have h3:=qL (X o []);refine eS (f:=Eu o (a:L) (b:L)) (Y (X o [])) (λi=>(aT (iZ a b 0 ((X o []).take i)),(cx ((X o []).take i):L),(i:L))) (λi hi=>?_) ?_ (cM (cA (by omega)));have t:=Nj (X o []) (i+1);have d:=GU hi;have u:=Vn a b ((X o []).take i) 0;have l:Y ((X o []).take i)≤Y (X o []):=by simp;omega
 rw[afu hi,d];unfold Eu wJ aM au aK ah al ay bd aH aA bv;dsimp-proj only[aj];simp only[];rw[dQ hi,cW hi];generalize v:(X o [])[i]=x at *;generalize cx ((X o []).take i)=at' at *;have j:=di (i:=i) (by omega);have m:aby a7 (((max a at':U):L)-(at':L))=((max a at'-at':U):L):=by grind [cf]
 by_cases hk:x.1=1;have e:wid x=Y x.2.1:=by unfold wid;rw[aF hk]
 rw[e]at d ⊢;have g:aby a7 ((at':L)+ag x.2.1)=((at'+Y x.2.1:U):L):=by grind [dv,cf]
 have n:aby a7 (((min b (at'+Y x.2.1):U):L)-(at':L))=((min b (at'+Y x.2.1):U):L)-(at':L):=eh (by omega);simp only[hk,g,j,afs,aft,m,n,cw,sE,bL,ch];by_cases c:max a at'<min b (at'+Y x.2.1);have p:((min b (at'+Y x.2.1):U):L)-(at':L)=((min b (at'+Y x.2.1)-at':U):L):=by omega
 simp only[p,afr];rw[aF (by simp;omega),aF (by simp;omega),aF c,Vo];simp;rw[aF (by simp;omega),aV (by simp;omega),aV c,Cn];have e:wid x=1:=by unfold wid;rw[aV hk]
 rw[e]at d ⊢;have h:(x.1 !=1)=W:=by simpa[bne]using hk
 have g:aby a7 ((at':L)+1)=((at'+1:U):L):=by grind [cf]
 simp only[h,g,j,cw,bI];by_cases c:max a at'<min b (at'+1);rw[aF (by simp;omega),aF (by simp;omega),aF c,Vo,aV hk];rw[aF (by simp;omega),aV (by simp;omega),aV c,Cn];unfold Eu aM au aK ah al ay bd aH aA bv;dsimp-proj only[aj];simp_all
def ib(f:M aN)(a b:L):Q (M aN)×az:=if a<0∨b<a∨b>cx f then(O,I)else(aT (iZ (G a) (G b) 0 f),W)
theorem Nk{o:Q (M aN)}(c:bm (X o [])≤1073741824)(a b:L):qE o a b=J (ib (X o []) a b):=by grind [qE,ib,GV,aG,au6]
theorem oW{o:Q (M aN)}(c:bm (X o [])≤1073741824)(a b:L):mM o a b=J (ib (X o []) a b):=by grind [mM,ib,sq,aG,au7]
def ic(s:M ao):M ao:=match fm s 32 with|.ofNat k=>s.take k|_=>s
def au8(s:M ao):BH s [32]=J (fm s 32):=by unfold BH cr au ah fE;by_cases h:([32]:M ao)=s;subst h;rfl;simp[h,c8];rfl
def Vp{s:M ao}(c:Y s≤1073741824):tL s [32]=J (ic s,s.drop (Y (ic s)+1),decide (Y (ic s)<Y s)):=by
 unfold tL Ln ic au aK bd;rw[au8,aG];rcases lc s 32 with⟨e,hn⟩|⟨k,e,hk,a,hn⟩
 rw[e];simp;rw[e];have w:aby a7 ((k:L)+ag [(32:ao)])=((k+1:U):L):=by rw[cf (by simp;omega) (by simp;omega)];simp
 have b:bu 0 (k:L) s=s.take k:=gX s 0 k;rw[aF (by simp),w,aF (by simp;omega),iY,b];grind [aG]
def au9{s:M ao}(a:Y s≤1073741824):LS s=J (ic s):=by unfold LS;rw[Vp a];rfl
theorem wK{s:M ao}(l:Y s≤1073741824):qA s=J (ic s):=by
 have run:∀(m:U)(r:M ao⊕bV),m≤Y s→(∀j:U,j<m→s[j]?≠J 32)→yH s (m:L)=J (.inr r)→bR (yH s) 0=J r:=by
  intro m r h1 h2 h3;refine eS (f:=yH s) m (λi=>(i:L)) (λi hi=>?_) h3 (cM (cA (by omega)));have d:i<Y s:=by omega
  have c:=h2 i hi;rw[eM d]at c;have g:(aZ s[i]==32)=I:=zn (b:=32) λe=>c (by rw[e]);unfold yH cr au aK ah cz ay aH aA de;rw[dQ d,aF (zl d),lL d,g,eh (by omega)];rfl
 unfold qA ic aX;rcases lc s 32 with⟨e,hn⟩|⟨k,e,hk,a,hn⟩
 rw[run (Y s) (.inr ()) (dR _) (λj _=>hn j) (by unfold yH cr au aK ah cz ay aH aA de;rw[gb]),e];rfl;have g:(aZ s[k]==32)=W:=by rw[eM a]at hk;rw[ra hk];rfl
 have h:bu 0 (k:L) s=s.take k:=gX s 0 k;rw[run k (.inl (s.take k)) (by omega) hn (by unfold yH cr au aK ah cz ay aH aA de;rw[dQ a,aF (zl a),lL a,g,aF rfl,aF (by simp;omega),h]),e];rfl
def afv(s:M ao):Y (ic s)≤Y s:=by unfold ic;split<;>simp;omega
def zq(b:ao):az:= !(decide (aZ b<32)||(decide (aZ b>126)||(b==60||(b==62||(b==123||b==125)))))
def oX(s:M ao):az:=decide (Y s≤64)&&(s.all zq&&(iG (ic s)&&((decide (Y (ic s)=Y s)||decide (Y s>Y (ic s)+1))&&(s.getLastD 0 !=47))))
def afw{s:M ao}(h:s≠[]):H s (Y s-1) 0=s.getLastD 0:=by grind
theorem Vq(c:ao):(aZ c==47)=(c==47):=by rw[zR,dL,dL];exact⟨λh=>wH (b:=47) h,λe=>by rw[e];rfl⟩
theorem GX(c:ao):(aZ c==60)=(c==60):=by rw[zR,dL,dL];exact⟨λh=>wH (b:=60) h,λe=>by rw[e];rfl⟩
def b62(c:ao):(aZ c==62)=(c==62):=by rw[zR,dL,dL];exact⟨λh=>wH (b:=62) h,λe=>by rw[e];rfl⟩
def Vr(c:ao):(aZ c==123)=(c==123):=by rw[zR,dL,dL];exact⟨λh=>wH (b:=123) h,λe=>by rw[e];rfl⟩
def avb(c:ao):(aZ c==125)=(c==125):=by rw[zR,dL,dL];exact⟨λh=>wH (b:=125) h,λe=>by rw[e];rfl⟩
def avc(c:ao):oO [60,62,123,125] (aZ c)=J (if c=60 then 0 else if c=62 then 1 else if c=123 then 2 else if c=125 then 3 else-1):=by
 have h:(G (aZ c)).toUInt8=c:=by simp[aZ]
 grind [oO,Fb,Fa,aG,fm]
def Vt(s:M ao):Fe s=J (oX s):=by
 unfold Fe oX aX au ah cz bd de;by_cases d:Y s≤64;by_cases a:s=[];subst a;rfl;have b:0<Y s:=List.length_pos_iff.2 a;have w:aby a7 (ag s-1)=((Y s-1:U):L):=by grind [dv,cf]
 have e:=wF (f:=Fc s) s zq I 0 (λi h _=>by
  have f4:=avc s[i]
  unfold aZ at f4
  have g:decide (0≤(i:L))=W:=by simp
  have hn:bT i (Y s)=W:=(c8 _ _).2 h
  unfold Fc zq iW aK cz ay aH aA fE
  rw[dQ h,g,lL h,eh (by omega)]
  grind [aG]) (by unfold Fc iW aK cz ay aH aA fE;rw[gb]) (Y s) 0 fuel (by omega) (cM (cA (by omega))) (by omega)
 have c0:decide (ag s>64)=I:=by simp;omega
 have c1:(ag s==0)=I:=by simp;omega
 have j:=afv s;simp only[w,c0,c1,fq,afw a,Vq];rw[aF (by simp[c8];omega)];cases k:s.getLastD 0==47;rw[aV (by simp),show bR (Fc s) 0=_ from e,aG,Hz];cases c:s.all zq;simp;rw[aF rfl,pz,Vp (by omega),aG,wG,aG];have l:(s.getLastD 0 !=47)=W:=by grind
 rw[l,ke d];congr 1;cases iG (ic s);rfl;rw[zR];simp;omega;grind;grind [ag]
def Vu(s:M ao):EB s=J (oX s):=by
 unfold EB oX aX au aK ah cz ay bd de;dsimp-proj only[aj];by_cases d:Y s≤64;have g:=wF (f:=EA s) s zq I 0 (λi h _=>by unfold EA zq au aK ah cz ay aH aA de;dsimp-proj only[aj];rw[dQ h,aF (zl h),lL h,eh (by omega),GX,b62,Vr,avb];cases(decide (aZ s[i]<32)||(decide (aZ s[i]>126)||(s[i]==60||(s[i]==62||(s[i]==123||s[i]==125)))))<;>rfl) (by unfold EA au aK ah cz ay aH aA de;dsimp-proj only[aj];rw[gb]) (Y s) 0 fuel (by omega) (cM (cA (by omega))) (by omega);have c0:decide (ag s>64)=I:=by simp;omega
 have j:=afv s;rw[c0,aV (by simp),show bR (EA s) 0=_ from g,aG,Hz];cases a:s.all zq;simp;rw[aF rfl,pz,wK (by omega),aG,B5,aG,ke d];cases k:iG (ic s);simp;have b:s≠[]:=by intro e;subst e;revert k;decide
 have c:0<Y s:=List.length_pos_iff.2 b;have w:aby a7 (ag s-1)=((Y s-1:U):L):=by grind [dv,cf]
 have l:aby a7 (ag (ic s)+1)=(Y (ic s):L)+1:=by rw[dv,eh (by omega)]
 simp only[w,l,fq,afw b,bne,Vq];rw[aF (by grind [c8])];congr 1;grind [ag];grind [ag]
def qM(s:M ao):az:=decide (s=[112])||(decide (s=[104])||(decide (s=[108,105])||(decide (s=[116,100])||decide (s=[116,105,116,108,101]))))
theorem Vv(s:M ao):Bp s=J (qM s):=rfl
theorem Vw(s:M ao):BG s=J (qM s):=by grind [BG,qM]
def afx{s:M ao}{j:U}(h:j<Y s):bu (j:L) ((j+1:U):L) s=[s[j]]:=by rw[gX,iP h,List.drop_append_of_le_length (by simp;omega)];simp
def avd{s:M ao}{c:ao}(b:s[0]?≠J c)(p:Y s≤1073741824):tE s [c] 1=J (fm s c):=by
 have step:∀j,j<Y s→mN s [c] (j:L)=if s[j]?=J c then J (.inr (.inl (j:L)))else J (.inl ((j+1:U):L)):=λj a=>by
  unfold mN cr aK ay bd aH aA;have w:aby a7 ((j:L)+ag [c])=((j+1:U):L):=by rw[cf (by simp;omega) (by simp;omega)];simp
  have d:aby a7 ((j:L)+1)=((j+1:U):L):=by simp_all
  rw[w,aF (by simp;omega),aF (by simp;omega),afx a,d,eM a];simp
 have stop:∀j,Y s≤j→j≤Y s+1→mN s [c] (j:L)=J (.inr (.inr ())):=λj a g=>by grind [mN,ag,cf]
 have run:∀(m:U)(r:L⊕bV),1≤m→m≤Y s+1→(∀j,1≤j→j<m→j<Y s∧s[j]?≠J c)→mN s [c] (m:L)=J (.inr r)→bR (mN s [c]) 1=J r:=by intro m r h1 h2 l q;refine eS (f:=mN s [c]) (m-1) (λi=>((i+1:U):L)) (λi hi=>?_) (by grind) (kQ (show m-1≤1073741824 by omega) (by decide));let⟨t,u⟩:=l (i+1) (by omega) (by omega);grind
 unfold tE aX;rcases lc s c with⟨e,hn⟩|⟨k,e,hk,n,hn⟩
 rcases js (Y s) 1 with h|h
 rw[run 1 (.inr ()) (by omega) (by omega) (λj _ _=>by omega) (stop 1 (by omega) (by omega)),e];rfl;rw[run (Y s) (.inr ()) h (by omega) (λj _ h=>⟨h,hn j⟩) (stop _ (by omega) (by omega)),e];rfl;have o:k≠0:=λh=>by subst h;exact b hk
 rw[run k (.inl (k:L)) (by omega) (by omega) (λj _ h=>⟨by omega,hn j h⟩) (by grind),e];rfl
def ave{s:M ao}(c:Y s≤1073741824):Lq s [47]=J (decide (ag s>0)&&aZ (H s (G (aby a7 (ag s-1))) 0)==47):=by
 unfold Lq Ss au bd;cases b:s with
 |nil=>rfl|cons d r=>
  rw[←b];have hp:0<Y s:=by rw[b];simp
  have w:aby a7 (ag s-ag [(47:ao)])=((Y s-1:U):L):=by grind [dv,cf]
  have e:aby a7 (ag s-1)=((Y s-1:U):L):=by simp_all
  have a:Y s-1<Y s:=by omega
  have f:bu ((Y s-1:U):L) (ag s) s=[s[Y s-1]]:=by have:=afx a;simp_all
  have g:H s (Y s-1) 0=s[Y s-1]:=by grind
  grind [fq,Vq,Decidable.decide,ag,aG]
def sr(b:M ao):az:=decide (ag b>0)&&aZ (H b (G (aby a7 (ag b-1))) 0)==47
def ie(b:M ao):L×M ao:=if[47].isPrefixOf b then(3,b.drop 1)else if sr b then(4,b.take (b.length-1))else(2,b)
def qN(b:M ao):az:=if[47].isPrefixOf b then iG (b.drop 1)else oX (ie b).2
def afy{b:M ao}(h:sr b=W):0<Y b:=by grind [sr,dv]
def avf{b:M ao}(h:ac3 [47] b=W):0<Y b:=by grind
def afz{s:M ao}(f:s.length≤67108864):Ff s=J (if fm s 62<1 then((0,[],0),0,I)else(((ie (bu 1 (fm s 62) s)).1,(ie (bu 1 (fm s 62) s)).2,0),fm s 62+1,qN (bu 1 (fm s 62) s))):=by
 unfold Ff cr au aK ah ay bd;dsimp-proj only[aj];rw[show oO s 62=J (fm s 62)from rfl,aG];rcases lc s 62 with⟨e,hn⟩|⟨k,e,hk,d,hn⟩
 rw[e];rfl;rw[e];by_cases c:(k:L)<1;grind;rw[jC c,aV (by decide),aV c,aF (by simp;omega),GC,aG];have g:(bu 1 (k:L) s).length≤67108864:=by rw[show(1:L)=((1:U):L)from rfl,gX];simp;omega
 generalize bu 1 (k:L) s=b at *;have w:a7.wrap ((k:L)+1)=(k:L)+1:=by grind [cf]
 have t1:bu 1 (ag b) b=b.drop 1:=iY b 1;unfold qN ie;cases hp:[47].isPrefixOf b with
 |true=>have:=avf hp;rw[aF rfl,aF (by simp;omega),t1,wG,aG,w];rfl|false=>
  rw[aV (by decide),ave (by omega),aG];show(if(!sr b||_)=W then _ else O)=_;cases a:sr b with|true=>have:=afy a;have h:a7.wrap (ag b-1)=((b.length-1:U):L):=(by grind [dv,cf]);simp_all [bu,sr,Vt]|false=>unfold sr at a;simp only[a,sB,xg,bI,bL,ch,Vt,aG,w]
def afA{s:M ao}(n:Y s≤67108864)(f:s[0]?≠J 62):EC s=J (if fm s 62<1 then((0,[],0),0)else if qN (bu 1 (fm s 62) s)=W then(((ie (bu 1 (fm s 62) s)).1,(ie (bu 1 (fm s 62) s)).2,0),fm s 62+1)else((0,[],0),0)):=by
 unfold EC cr au aK ah cz ay bd de;dsimp-proj only[aj];rw[avd f (by omega),aG];rcases lc s 62 with⟨e,hn⟩|⟨k,e,hk,i,hn⟩
 rw[e];rfl;rw[e];have j:k≠0:=λh=>by subst h;exact f hk
 rw[aV (by simp),aV (show ¬(k:L)<1 by omega),aF (by simp;omega),tX,aG];have o:Y (bu 1 (k:L) s)≤67108864:=by rw[show(1:L)=((1:U):L)from rfl,gX];simp;omega
 generalize bu 1 (k:L) s=b at *;have w:aby a7 ((k:L)+1)=(k:L)+1:=by grind [cf]
 have t1:bu 1 (ag b) b=b.drop 1:=iY b 1;unfold qN ie;cases hp:ac3 [47] b with
 |true=>grind [ag,B5,aG]|false=>
  cases a:sr b with
  |true=>have:=afy a;have d:aby a7 (ag b-1)=((Y b-1:U):L):=(by grind [dv,cf]);have t2:bu 0 ((Y b-1:U):L) b=b.take (Y b-1):=gX b 0 (Y b-1);unfold sr at a;simp only[d]at a;have n1:bT (Y b-1) (Y b)=W:=(by rw[c8];omega);have l:decide ((0:L)≤((Y b-1:U):L))=W:=(by simp);have m:decide ((0:L)≤0∧(0:L)≤((Y b-1:U):L)∧((Y b-1:U):L)≤ag b)=W:=(by simp);have d3:((4:L)==3)=I:=rfl;have c:((4:L) !=3)=W:=rfl;rw[fq]at a;simp only[d,fq,a,n1,l,m,t2,d3,c,bI,bL,ch,Vu,aG,w,qX,zQ,kF,w6];cases oX (b.take (Y b-1))<;>rfl
  |false=>
   unfold sr at a;have d3:((2:L)==3)=I:=rfl;have c:((2:L) !=3)=W:=rfl;have g:(!decide (ag b>0)||decide ((0:L)≤aby a7 (ag b-1))&&bT (G (aby a7 (ag b-1))) (Y b))=W:=by
    rcases Nat.eq_zero_or_pos (Y b) with h|h
    simp_all;have d:aby a7 (ag b-1)=((Y b-1:U):L):=(by grind [dv,cf]);grind [c8,fq]
   simp only[g,a,d3,c,bI,bL,ch,Vu,aG,w,qX,uz,zQ,sB,xg];cases oX b<;>rfl
def b38(c:ao):(aZ c==38)=(c==38):=pL rfl
def tZ(s:M ao):Q (aN×L):=if fm s 62<1 then O else if qN (bu 1 (fm s 62) s)=W∧qM (ic (ie (bu 1 (fm s 62) s)).2)=I then J (((ie (bu 1 (fm s 62) s)).1,(ie (bu 1 (fm s 62) s)).2,0),fm s 62+1)else O
def qO:M ao→aN×L
 |[]=>((0,[],0),0)|c::r=>if c=60 then(X (tZ (c::r))) ((0,[],0),0)else if c=38 then match pM (c::r)with|some (d,n)=>((1,[d],0),(n:L))|none=>((0,[],0),0)
  else if c=123 then((jY (c::r)).1,((jY (c::r)).2:L))else((1,[c],0),1)
def B8(b:M ao):Y (ie b).2≤Y b:=by grind [ie]
theorem afC(k:L)(s:M ao):Y (bu 1 k s)≤Y s:=by unfold bu;simp;omega
def afD{s:M ao}(h:s≠[])(i:Y s≤67108864):KY s=J (qO s):=by
 cases s with
 |nil=>exact cO rfl h|cons c r=>
  unfold KY qO aX au ah fE;dsimp-proj only[aj];have j:bT 0 (Y (c::r))=W:=by simp[c8]
  have k:fW c.toNat=aZ c:=rfl;simp only[j,qX,bI,pX,k,GX,b38,Vr];by_cases a:c=60;subst a;have t:=afA (s:=60::r) i (by simp);rw[aF (by rfl),aF rfl,t];unfold tZ;have hk:=Lib.indexByte_ge (60::r) 62;by_cases h1:fm (60::r) 62<1;simp_all;rw[aV h1,aV h1];have l:=B8 (bu 1 (fm (60::r) 62) (60::r));have g:=afC (fm (60::r) 62) (60::r);grind [wK,aG,Vv];have e:(c==60)=I:=by simpa using a
  rw[e,aV (by decide),aV a];by_cases b:c=38;subst b;rw[aF (by rfl),aF rfl,au4,aG];cases pM (38::r)<;>rfl;have f:(c==38)=I:=by simpa using b
  rw[f,aV (by decide),aV b];by_cases d:c=123;subst d;rw[aF (by rfl),aF rfl,Va (by simp) (by simp) (by omega)];rfl;simp_all [oM,Vb]
def avg(a:Q (M aN))(b d:Q (M L))(e:Q (M aN)×L)(c off:L):wd c off (a,b,d,e)=match r7 c off (a,b,d)with|some (r,x,y,z)=>J (r,x,y,z,e)|none=>O:=by
 grind [wd,r7,E9,qD,aG]
def afE(a:Q (M aN))(b d:Q (M L))(e:Q (M aN)×L):E8 (a,b,d,e)=match qC (a,b,d)with|some (x,y,z)=>J (x,y,z,e)|none=>O:=by
 grind [E8,qC]
def Vx(a:Q (M aN))(b d:Q (M L))(e:Q (M aN)×L)(x:aN)(off:L):rY x off (a,b,d,e)=match tM x off (a,b,d)with|some (r,x,y,z)=>J (r,x,y,z,e)|none=>O:=by
 unfold rY tM au ah al bv
 rw[show E9 I (a,b,d,e)=qD I (a,b,d)from rfl,afE]
 cases qD I (a,b,d)with
 |none=>rfl|some r=>
  simp only[aG];cases r;simp only[bL,ch];cases qC (a,b,d)with|none=>rfl|some q=>let⟨c,g,f⟩:=q;by_cases h1:Y (X c [])≤68719476735<;>by_cases h2:Y (X f [])≤68719476735<;>simp[h1,h2]
  rfl
theorem Nl{s:M ao}(a:Y s≤1073741824):wh s=J (ic s):=by unfold wh;rw[Vp a];rfl
def avh{kind:L}(hk:kind=2∨kind=4)(c:M ao)(off:L)(a:Q (M aN))(b d:Q (M L))(o:Q (M aN))(n:U)(f:Y (X o [])≤1073741824)(hn:n≤1073741824):rZ (kind,c,0) off (a,b,d,o,(n:L))=aq (rY (kind,c,((n+1:U):L)) off (a,b,d,if kind=2 then J (X o []++[(2,c,((n+1:U):L))])else o,((n+1:U):L))) λr=>aq (mO r.1) λe=>J (e,r.2):=by grind [rZ,cf]
def avi(c:M ao)(off:L)(a:Q (M aN))(b d:Q (M L))(o:Q (M aN))(n:L)(e:X o []=[]):rZ (3,c,0) off (a,b,d,o,n)=J (7,a,b,d,o,n):=by unfold rZ cJ au ah al ay bd bv;dsimp-proj only[aj];simp[e]
def avj(c:M ao)(off:L)(a:Q (M aN))(b d:Q (M L))(o:M aN)(t:aN)(n:L)(m:o.length≤1073741824)(f:t.2.1.length≤1073741824):rZ (3,c,0) off (a,b,d,J (o++[t]),n)=if ic t.2.1=c then aq (rY (3,c,t.2.2) off (a,b,d,J o,n)) λr=>aq (mO r.1) λe=>J (e,r.2)else J (7,a,b,d,J (o++[t]),n):=by
 unfold rZ cJ au ah al ay bd bv;dsimp-proj only[aj];have w:a7.wrap (ag (o++[t])-1)=((o.length:U):L):=by grind [dv,cf]
 have d3:((3:L)==3)=W:=rfl;have d2:((3:L)==2)=I:=rfl;have g:(ag (o++[t])==0)=I:=by rw[beq_eq_false_iff_ne,dv];simp;omega
 have h:decide ((0:L)≤(o.length:L)∧(o.length:L)<ag (o++[t]))=W:=by simp;omega
 have i:bT (0+o.length) (o++[t]).length=W:=by rw[c8];simp
 have j:decide ((0:L)≤0∧(0:L)≤(o.length:L)∧(o.length:L)≤ag (o++[t]))=W:=by simp;omega
 have k:(o++[t]).getD (0+o.length) (0,[],0)=t:=by simp
 have l:bu 0 (o.length:L) (o++[t])=o:=by grind [gX]
 simp only[fL,w,d3,d2,g,h,i,j,k,l,fq,Nl f,aG,bI,bL,ch,m8,Option.isSome_some,qX,sB,xg,beq_self_eq_true];grind
abbrev BM:=Q (M aN)×Q (M L)×Q (M L)×Q (M aN)×L
def avk{raw r:M ao}{k:U}(hk:k<Y raw)(e:Y raw≤67108864)(b:raw.drop k=60::r)(q:BM):
  nG raw (k:L) q=match tZ (60::r)with|none=>J (0,2,q)|some (x,n)=>aq (rZ x (k:L) q) λc=>J (n,c):=by
 have a:Y (60::r)≤67108864:=by grind
 unfold nG cr au aK ah ay;dsimp-proj only[aj]
 rw[iY,b,aF (by simp;omega),aF (by simp[c8]),pX,aF (by rfl),afz a,aG]
 unfold tZ
 by_cases h1:fm (60::r) 62<1
 grind
 rw[aV h1,aV h1]
 have d:=B8 (bu 1 (fm (60::r) 62) (60::r))
 grind [afC,Nl,aG,Vw]
def avl{raw r:M ao}{k:U}(hk:k<Y raw)(b:raw.drop k=38::r)(q:BM):
  nG raw (k:L) q=match pM (38::r)with|none=>J (0,2,q)|some (d,n)=>aq (wd (aZ d) (k:L) q) λa=>aq (mO a.1) λe=>J ((n:L),e,a.2):=by
 unfold nG cr au aK ah ay;dsimp-proj only[aj]
 rw[iY,b,aF (by simp;omega),aF (by simp[c8]),pX,aV (by decide),aF (by rfl),au3,aG]
 grind
theorem avm{raw r:M ao}{c:ao}{k:U}(hk:k<Y raw)(b:raw.drop k=c::r)(h1:c≠60)(h2:c≠38)(h3:c≠123)(q:BM):nG raw (k:L) q=aq (wd (aZ c) (k:L) q) λa=>aq (mO a.1) λe=>J (1,e,a.2):=by unfold nG cr au aK ah ay;dsimp-proj only[aj];rw[iY,b,aF (by simp;omega),aF (by simp[c8]),pX,GX,b38,Vr,aV (by simpa using h1),aV (by simpa using h2),aV (by simpa using h3),aF (by simp[c8])]
theorem avn{raw r:M ao}{k:U}(hk:k<Y raw)(l:Y raw≤67108864)(d:raw.drop k=123::r)(q:BM):nG raw (k:L) q=if(jY (123::r)).2=0 then J (0,2,q)else aq (rY (jY (123::r)).1 (k:L) q) λb=>aq (mO b.1) λe=>J (((jY (123::r)).2:L),e,b.2):=by
 have c:Y (123::r)≤67108864:=by grind
 unfold nG jY cr au aK ah ay;dsimp-proj only[aj];rw[iY,d,aF (by simp;omega),aF (by simp[c8]),pX,aV (by decide),aV (by decide),aF (by rfl),Vg,aG];rcases lc (123::r) 125 with⟨e,hn⟩|⟨j,e,f,a,hn⟩
 rw[e];rfl;rw[e];have m:j≠0:=λh=>by subst h;simp at f
 have n:bu 1 (j:L) (123::r)=((123::r).take j).drop 1:=gX _ 1 j;have w:=di (i:=j) (by omega);have g:decide ((0:L)≤1∧(1:L)≤(j:L)∧(j:L)≤ag (123::r))=W:=by simp at a ⊢;omega
 have o:decide ((j:L)<0)=I:=by simp
 grind [wG,aq]
def avo(c:ao)(r:M ao):qO (c::r)=if c=60 then(X (tZ (c::r))) ((0,[],0),0)else if c=38 then match pM (c::r)with|some (d,n)=>((1,[d],0),(n:L))|none=>((0,[],0),0) else if c=123 then((jY (c::r)).1,((jY (c::r)).2:L))else((1,[c],0),1):=rfl
def avp{s:M ao}{d:ao}{n:U}(h:pM s=J (d,n)):1≤n∧n≤Y s:=by grind [pM]
theorem avq(s:M ao):jY s=((0,[],0),0)∨∃nm,jY s=((5,nm,0),Y nm+2)∧Y nm+2≤Y s:=by
 unfold jY;rcases lc s 125 with⟨e,hn⟩|⟨j,e,b,a,hn⟩
 rw[e];exact .inl rfl;rw[e];grind [iG]
def avr{raw:M ao}{k:U}(hk:k<Y raw)(o:Y raw≤67108864)(q:BM):(qO (raw.drop k)=((0,[],0),0)∧nG raw (k:L) q=J (0,2,q))∨(∃(t:ao)(n:U),1≤n∧k+n≤Y raw∧qO (raw.drop k)=((1,[t],0),(n:L))∧nG raw (k:L) q=aq (wd (aZ t) (k:L) q) λf=>aq (mO f.1) λe=>J ((n:L),e,f.2))∨(∃(nm:M ao)(n:U),Y nm+2=n∧k+n≤Y raw∧qO (raw.drop k)=((5,nm,0),(n:L))∧nG raw (k:L) q=aq (rY (5,nm,0) (k:L) q) λf=>aq (mO f.1) λe=>J ((n:L),e,f.2))∨(∃(kd:L)(c:M ao)(n:U),(kd=2∨kd=3∨kd=4)∧Y c+2≤n∧k+n≤Y raw∧qO (raw.drop k)=((kd,c,0),(n:L))∧nG raw (k:L) q=aq (rZ (kd,c,0) (k:L) q) λp=>J ((n:L),p)):=by
 have a:Y (raw.drop k)=Y raw-k:=by simp
 cases l:raw.drop k with
 |nil=>grind|cons c r=>
  rw[l]at a;simp only[kO]at a;rw[avo];by_cases g:c=60;subst g;rw[avk hk o l];simp only[aF rfl];cases b:tZ (60::r)with
  |none=>grind|some x=>
   right;right;right;unfold tZ at b;split at b;cases b;rename_i h1;split at b;cases b;rcases lc (60::r) 62 with⟨e,hn⟩|⟨j,e,v,m,hn⟩
   grind;simp only[kO]at m;have h2:=B8 (bu 1 (fm (60::r) 62) (60::r));have s:bu 1 (j:L) (60::r)=((60::r).take j).drop 1:=gX _ 1 j;have u:Y (((60::r).take j).drop 1)=j-1:=(by simp;omega);rw[e]at h1 h2 ⊢;rw[s]at h2 ⊢;refine⟨(ie (((60::r).take j).drop 1)).1,(ie (((60::r).take j).drop 1)).2,j+1,?_,by omega,by omega,rfl,rfl⟩;grind [ie];cases b
  rw[aV g];by_cases h:c=38;subst h;rw[avl hk l];simp only[aF rfl];cases b:pM (38::r)with|none=>grind|some x=>let⟨d,n⟩:=x;right;left;have hn:1≤n∧n≤Y (38::r):=avp b;exact⟨d,n,hn.1,by simp at hn;omega,rfl,rfl⟩
  rw[aV h];by_cases i:c=123;subst i;grind [avn,avq];grind [avm]
abbrev avs:=Q (M aN)×Q (M aN)×Q (M L)×L×L×L
def RMk(raw:M ao)(x:L×BM)(y:avs):Prop:=∃(k a:U)(items:M aN)(text:M ao)(b:Q (M L))(cs:M L)(o:Q (M aN)),k≤Y raw∧x=((k:L),aT items,b,aT cs,o,(a:L))∧X b []=fN text∧y=(aT (dB items text),o,aT cs,(k:L),(k:L),(a:L))∧qJ items∧bm items+(Y text+1)≤2*k+1∧Y cs≤k∧a≤k∧Y (X o [])≤k∧∀t∈X o [],Y t.2.1≤Y raw
def SMk(raw:M ao)(r:(bV×L×L)⊕BM)(q:(Q (M aN)×Q (M L)×L×L)⊕(Q (M aN)×Q (M aN)×Q (M L)×L)):Prop:=(∃(k:U)(e:L),k≤Y raw∧e≠0∧r=.inl ((),(k:L),e)∧q=.inl (O,O,(k:L),e))∨∃(b:U)(items:M aN)(text:M ao)(a:Q (M L))(cs:M L)(o:Q (M aN)),r=.inr (aT items,a,aT cs,o,(b:L))∧X a []=fN text∧q=.inr (aT (dB items text),o,aT cs,(Y raw:L))∧qJ items∧bm items+(Y text+1)≤2*Y raw+1∧Y cs≤Y raw
def GY(b:az):mO b=J (if b=W then 0 else 3):=by grind [mO]
def avu{raw:M ao}(Y:raw.length≤67108864):∃r q,bR (Lr raw) (0,O,O,O,O,0)=J r∧bR (nF 1 raw) (O,O,O,0,0,0)=J q∧SMk raw r q:=by
 refine qI (RMk raw) (SMk raw) (λx=>raw.length-x.1.toNat) (λx y h=>?_) ⟨0,0,[],[],O,[],O,by omega,rfl,rfl,rfl,⟨rfl,by simp⟩,by simp[bm],by simp,by omega,by simp,by simp⟩ (cM (cA (by simp;omega)))
 obtain⟨k,f,items,text,T,cs,o,hk,rfl,D,rfl,v,E,P,Z,V,j⟩:=h
 rcases js k raw.length with R|hge
 ·have hti:=eT items
  have hfl:=wI items text
  have hll:=eT (dB items text)
  have d:∀x:aN,bm [x]=x.2.1.length+1:=λx=>by simp[bm]
  have c1:decide ((k:L)<ag raw)=W:=by simp;omega
  have c2:decide (0≤(k:L)∧(k:L)≤ag raw∧ag raw≤ag raw)=W:=by simp;omega
  have hE:rW 1 (raw.drop k)=J (qO (raw.drop k)):=by
   rw[←afD (λh=>by have:=bX wX h;simp at this;omega) (by simp;omega)]
   unfold rW ah;exact ab8 _
  unfold Lr nF cJ cr au aK ah al ay bd aH aA bv;dsimp-proj only[aj]
  simp only[c1,c2,bI,iY,hE,aG]
  rcases avr R Y (aT items,T,aT cs,o,(f:L))with⟨A,B⟩|⟨t,n,hn,F,A,B⟩|⟨N,n,hn,F,A,B⟩|⟨kd,c,n,O4,hn,F,A,B⟩
  ·right
   rw[B,A]
   exact⟨_,_,rfl,rfl,.inl ⟨k,2,hk,by omega,rfl,rfl⟩⟩
  ·rw[B,A,avg,Vd D (by omega) (by omega) (by omega)]
   have C:(((n:L)==0)=I):=by grind
   have w:aby a7 ((k:L)+(n:L))=((k+n:U):L):=by grind [cf]
   have m:=mR (a:=aT (dB items text)) (b:=J [(1,[t],0)]) (by simp[d];omega)
   rw[cw,fL,qK,tY v,Vc v]at m
   have G:(dB items (text++[t])).length=items.length+1:=by rw[Nf];simp
   simp only[C,w,m,cw,G,aG,dv,GY]
   by_cases p:items.length+1>512∨cs.length≥1024
   ·right
    simp only[aF p]
    refine⟨_,_,rfl,?_,.inl ⟨k,3,hk,by omega,rfl,rfl⟩⟩
    simp
    omega
   ·left
    simp only[aV p]
    refine⟨_,_,rfl,?_,⟨k+n,f,items,text++[t],J (fN (text++[t])),cs++[(k:L)],o,by omega,rfl,rfl,rfl,v,by simp;omega,by simp;omega,by omega,by omega,j⟩,by simp;omega⟩
    grind [jM]
  ·rw[B,A,Vx]
   obtain⟨s,u,H⟩:=GG (items:=items) D (by omega) (show cs.length≤1073741824 by omega) (5,N,0) (k:L)
   rw[H]
   have C:(((n:L)==0)=I):=by grind
   have w:aby a7 ((k:L)+(n:L))=((k+n:U):L):=by grind [cf]
   have m:=mR (a:=aT (dB items text)) (b:=J [(5,N,0)]) (by simp[d];omega)
   obtain⟨f1,f2⟩:=GD v text (x:=(5,N,0)) (show(5:L)≠1 by decide)
   rw[cw,fL,qK,tY v,f1]at m
   simp only[C,w,m,cw,aG,dv,lg,kO,Cs,GY]
   by_cases p:(dB items text).length+1>512∨cs.length≥1024
   ·right
    simp only[aF p]
    refine⟨_,_,rfl,?_,.inl ⟨k,3,hk,by omega,rfl,rfl⟩⟩
    simp
    omega
   ·left
    simp only[aV p]
    refine⟨_,_,rfl,?_,⟨k+n,f,dB items text++[(5,N,0)],[],s,cs++[(k:L)],o,by omega,rfl,u,rfl,f2,by grind [jl],by simp;omega,by omega,by omega,j⟩,by simp;omega⟩
    grind [jM,dB]
  ·have C:(((n:L)==0)=I):=by grind
   have w:aby a7 ((k:L)+(n:L))=((k+n:U):L):=by grind [cf]
   have wc:=di (i:=f) (by omega)
   rw[B,A]
   rcases(show kd=3∨kd=2∨kd=4 by omega)with rfl|g
   ·
    rcases List.eq_nil_or_concat (o.getD [])with X|⟨l,t,e⟩
    ·rw[avi c (k:L) _ _ _ o (f:L) X]
     right
     simp only[aG,C,X]
     exact⟨_,_,rfl,rfl,.inl ⟨k,7,hk,by omega,rfl,rfl⟩⟩
    ·have e:o.getD []=l++[t]:=by simpa using e
     obtain rfl:o=J (l++[t]):=by
      cases o with
      |none=>simp at e
      |some z=>simp at e;rw[e]
     simp only[fL]at V j
     have htl:=j t (by simp)
     rw[lg,List.length_singleton]at V
     have wl:aby a7 (ag (l++[t])-1)=((l.length:U):L):=by grind [dv,cf]
     have g1:decide ((0:L)≤(l.length:L)∧(l.length:L)<ag (l++[t]))=W:=by simp;omega
     have g2:bT (0+l.length) (l++[t]).length=W:=by rw[c8];simp
     have g3:decide ((0:L)≤0∧(0:L)≤(l.length:L)∧(l.length:L)≤ag (l++[t]))=W:=by simp;omega
     have g4:decide ((l.length:L)<0)=I:=by simp
     have e2:(l++[t]).getD (0+l.length) (0,[],0)=t:=by simp
     have e3:bu 0 (l.length:L) (l++[t])=l:=by grind [gX]
     have S:qA t.2.1=J (ic t.2.1):=wK (by omega)
     have m:=mR (a:=aT (dB items text)) (b:=J [(3,c,t.2.2)]) (by simp[d];omega)
     obtain⟨f1,f2⟩:=GD v text (x:=(3,c,t.2.2)) (show(3:L)≠1 by decide)
     rw[cw,fL,qK,tY v,f1]at m
     rw[avj c (k:L) _ _ _ l t (f:L) (by omega) (by omega)]
     have q0:(((3:L)==0)=I):=rfl
     have q2:(((3:L)==2)=I):=rfl
     have q3:(((3:L)==3)=W):=rfl
     have q4:(((3:L)==4)=I):=rfl
     simp only[C,wl,g1,g2,g3,g4,e2,e3,S,m,w,q0,q2,q3,q4,aG,fL,m8,fq,bI,ch,bL,qX]
     by_cases K:ic t.2.1=c
     ·obtain⟨s,u,H⟩:=GG (items:=items) D (by omega) (show cs.length≤1073741824 by omega) (3,c,t.2.2) (k:L)
      rw[aF K,Vx,H]
      by_cases p:(dB items text).length+1>512∨cs.length≥1024
      ·right
       simp only[aF p,K,GY,aG,w]
       refine⟨_,_,rfl,?_,.inl ⟨k,3,hk,by omega,rfl,rfl⟩⟩
       simp
       omega
      ·left
       simp only[aV p,K,GY,aG,w]
       refine⟨_,_,rfl,?_,⟨k+n,f,dB items text++[(3,c,t.2.2)],[],s,cs++[(k:L)],J l,by omega,rfl,u,rfl,f2,by grind [jl],by simp;omega,by omega,by simp;omega,λz hz=>j z (by grind)⟩,by simp;omega⟩
       simp[jM]
       rw[aV (by omega),aF (by omega)]
       simp[dB]
       cases l<;>rfl
     ·right
      rw[aV K]
      simp only[aG]
      refine⟨_,_,rfl,?_,.inl ⟨k,7,hk,by omega,rfl,rfl⟩⟩
      simp[K]
   ·
    have k3:(kd==3)=I:=by rcases g with rfl|rfl<;>rfl
    have k0:(kd==0)=I:=by rcases g with rfl|rfl<;>rfl
    have kk:(if(kd==2)=W then kd==2 else kd==4)=W:=by rcases g with rfl|rfl<;>rfl
    have m:=mR (a:=aT (dB items text)) (b:=J [(kd,c,((f+1:U):L))]) (by simp[d];omega)
    obtain⟨f1,f2⟩:=GD v text (x:=(kd,c,((f+1:U):L))) (show kd≠1 by omega)
    rw[cw,fL,qK,tY v,f1]at m
    obtain⟨s,u,H⟩:=GG (items:=items) D (by omega) (show cs.length≤1073741824 by omega) (kd,c,((f+1:U):L)) (k:L)
    rw[avh g c (k:L) _ _ _ o f (by omega) (by omega),Vx,H]
    simp only[C,k0,kk,wc,m,w,aG,cw,dv,lg,kO,Cs,GY,bI,bL,ch]
    by_cases p:(dB items text).length+1>512∨cs.length≥1024
    ·right
     simp only[aF p]
     refine⟨_,_,rfl,?_,.inl ⟨k,3,hk,by omega,rfl,rfl⟩⟩
     simp
     omega
    ·left
     simp only[aV p]
     refine⟨_,_,rfl,?_,⟨k+n,f+1,dB items text++[(kd,c,((f+1:U):L))],[],s,cs++[(k:L)],if kd=2 then J (o.getD []++[(2,c,((f+1:U):L))])else o,by omega,rfl,u,rfl,f2,by grind [jl],by simp;omega,by omega,by split<;>(try simp)<;>omega,λz hz=>?_⟩,by simp;omega⟩
     ·grind [jM,dB]
     grind
 ·right
  have:k=raw.length:=by omega
  subst this
  have c1:decide (((raw.length:U):L)<ag raw)=I:=by simp
  unfold Lr nF cJ cr au aK ah al ay bd aH aA bv;dsimp-proj only[aj]
  simp only[c1]
  exact⟨_,_,rfl,rfl,.inr ⟨f,items,text,T,cs,o,rfl,D,rfl,v,E,P⟩⟩
theorem Nn{raw:M ao}(j:Y raw≤67108864):∃f a at' e,gW 1 raw=J (f,a,at',e)∧BJ raw=J (f,at',e)∧FA raw=J (a,e)∧0≤at'∧at'≤Y raw∧bm (X f [])≤2*Y raw+2:=by
 let⟨r,q,l,m,h⟩:=avu j;unfold gW BJ FA Ls aX au aK ah al bv;rw[l,m];rcases h with⟨k,e,hk,g,rfl,rfl⟩|⟨n,items,text,p,cs,o,rfl,s,rfl,w,i,t⟩
 refine⟨O,O,k,e,rfl,?_,?_,by omega,by omega,by simp[bm]⟩;simp[g];simp[g];have u:=eT items;have v:=wI items text;by_cases c:Y (X o [])>0;refine⟨O,O,(Y raw:U),7,?_,?_,?_,by omega,by omega,by simp[bm]⟩;simp[c];simp[c];simp[c];have d:∃b,Ll (aT items,p,aT cs,o,(n:L))=J (aT (dB items text),b):=by unfold Ll au;rw[afE,GF s (by omega)];simp_all
 let⟨b,d⟩:=d;refine⟨aT (dB items text),J (cs++[(Y raw:L)]),0,0,?_,?_,?_,by omega,by omega,by rw[cw];omega⟩;simp[c];omega;simp[c,d];unfold SG au al bv;simp[c];rw[aF (by omega)];rfl
def avv{s t:M ao}{j:U}(h:j+Y t≤Y s):decide (bu (j:L) ((j+Y t:U):L) s=t)=zT s t j:=by rw[gX];grind [zT,List.prefix_iff_eq_take]
def afG{s t:M ao}{k:U}(hk:k≤Y s)(g:t≠[])(u:Y s≤67108864)(l:Y t≤67108864):tE s t (k:L)=J (if w7 (s.drop k) t<0 then-1 else(k:L)+w7 (s.drop k) t):=by
 have n:0<Y t:=List.length_pos_iff.2 g;have step:∀j,j+Y t≤Y s→mN s t (j:L)=if zT s t j=W then J (.inr (.inl (j:L)))else J (.inl ((j+1:U):L)):=λj c=>by
  unfold mN cr aK ay bd aH aA;have w:aby a7 ((j:L)+ag t)=((j+Y t:U):L):=by grind [dv,cf]
  have o:=di (i:=j) (by omega);rw[w,aF (by simp;omega),aF (by simp;omega),avv c,o]
 have stop:∀j,Y s<j+Y t→j≤Y s+1→mN s t (j:L)=J (.inr (.inr ())):=λj c p=>by unfold mN cr aK ay bd aH aA;grind [dv,cf]
 have run:∀(m:U)(r:L⊕bV),k≤m→m≤Y s+1→(∀j,k≤j→j<m→j+Y t≤Y s∧zT s t j=I)→mN s t (m:L)=J (.inr r)→bR (mN s t) (k:L)=J r:=by intro m r h1 h2 q v;refine eS (f:=mN s t) (m-k) (λi=>((k+i:U):L)) (λi hi=>?_) (by grind) (kQ (show m-k≤1073741824 by omega) (by decide));let⟨x,y⟩:=q (k+i) (by omega) (by omega);grind
 have d:∀j,zT (s.drop k) t j=zT s t (k+j):=λj=>by unfold zT;rw[List.drop_drop]
 unfold tE aX;rcases Lib.index_spec (s.drop k) t with⟨e,hn⟩|⟨i,e,hi,z,hn⟩
 rw[e];have b:∀j,k≤j→j≤Y s→zT s t j=I:=λj h1 h2=>by grind [Nat.add_sub_cancel']
 rcases js (Y s) (k+Y t)with h|h
 rw[run k (.inr ()) (dR _) (by omega) (λj _ _=>by omega) (stop k h (by omega))];rfl;rw[run (Y s+1-Y t) (.inr ()) (by omega) (by omega) (λj h1 h2=>⟨by omega,b j h1 (by omega)⟩) (stop _ (by omega) (by omega))];rfl;have a:=ahS (s.drop k) t (by rw[e];omega);rw[e]at a ⊢;simp only[Hr]at a;rw[aV (by omega),run (k+i) (.inl ((k+i:U):L)) (by omega) (by omega) (λj h1 h2=>⟨by omega,by have:=hn (j-k) (by omega);grind⟩) (by grind)];simp
def ss:M ao→Q (U×M ao)
 |[]=>O|c::r=>if c≠60 then J (1,[])else if[60,33,45,45].isPrefixOf (c::r)=W then match w7 ((c::r).drop 4) [45,45,62]with|.ofNat i=>J (i+7,[])|_=>O
  else match fm (c::r) 62 with|.ofNat j=>if j<1 then O else if qN (((c::r).take j).drop 1)=W then(if qM (ic (ie (((c::r).take j).drop 1)).2)=W then(if(ie (((c::r).take j).drop 1)).1=2 then J (j+1,ic (ie (((c::r).take j).drop 1)).2)else O)else J (j+1,[]))else O|_=>O
def Np(data:M ao)(q:L)(nm:M ao)(s:L×M ao×Q (M df)×L):Q ((L×L×M ao×Q (M df)×L)⊕(Q (M df)×L×L)⊕(M ao×Q (M df)×L)):=
    if decide (nat_lit 2+Y nm≤nat_lit 1152921504606846976)=W then
     if
       decide
         (Y ([(60:ao),(47:ao)]++nm)+nat_lit 1≤
           nat_lit 1152921504606846976)=
        W then
      aq
       (tE data ([(60:ao),(47:ao)]++nm++[(62:ao)])
         (q))
       λa=>
       if
         decide
           ((0:L)≤q∧
             q≤ag data∧ag data≤ag data)=
          W then
        if
          (!decide (a≥(0:L))||
             decide
              ((0:L)≤q∧
                q≤a∧a≤ag data))=
            W then
         aq
          (gW (1:L)
            (if decide (a≥(0:L))=W then
              bu (q) a data
            else bu (q) (ag data) data))
          λb=>
          if(b.snd.snd.snd !=(0:L))=W then
           J
            (mm
              (mo
                (O,
                  a7.wrap
                   (q+b.snd.snd.fst),
                  b.snd.snd.snd)))
          else
           if decide (a<(0:L))=W then
            J (mm (mo (O,ag data,(2:L))))
           else
            aq (yK (aby a7 (s.1+(1:L))))
             λc=>
             aq
              (tG c (q) a
                s.2)
              λd=>
              J
               (mo
                 (aby a7 (aby a7 (a+ag nm)+(3:L)),
                   a7.wrap (s.1+(1:L)),d))
        else O
       else O
     else O
    else O
def Nq(data:M ao)(q:L)(nm:M ao)(s:L×M ao×L×Q (M df)):Q ((L×L×M ao×L×Q (M df))⊕(Q (M df)×L×L)⊕(M ao×L×Q (M df))):=
    if
      decide
        ((0:L)≤q∧
          q≤ag data∧ag data≤ag data)=
       W then
     if decide (nat_lit 2+Y nm≤nat_lit 1152921504606846976)=W then
      if
        decide
          (Y ([(60:ao),(47:ao)]++nm)+nat_lit 1≤
            nat_lit 1152921504606846976)=
         W then
       aq
        (Fd.strings_Index (bu (q) (ag data) data)
          ((60:ao)::
            (47:ao)::
              (((nm))++[(62:ao)])))
        λa=>
        if
          decide
            ((0:L)≤q∧
              (q≤
                 if decide (a<(0:L))=W then ag data
                 else aby a7 (q+a))∧
                (if decide (a<(0:L))=W then ag data
                  else aby a7 (q+a))≤
                  ag data)=
           W then
         aq
          (BJ
            (bu (q)
              (if decide (a<(0:L))=W then ag data
              else aby a7 (q+a))
              data))
          λb=>
          if(b.snd.snd !=(0:L))=W then
           J
            (mm
              (mo
                (O,aby a7 (q+b.snd.fst),
                  b.snd.snd)))
          else
           if decide (a<(0:L))=W then J (mm (mo (O,ag data,(2:L))))
           else
            aq (Fd.strconv_Itoa (aby a7 (s.1+(1:L)))) λc=>
             aq
              (yU (q)
                (if decide (a<(0:L))=W then ag data
                else aby a7 (q+a))
                c s.2)
              λd=>
              if
                (decide (nat_lit 2+Y nm≤nat_lit 1152921504606846976)&&
                   decide
                    (Y ([(60:ao),(47:ao)]++nm)+nat_lit 1≤
                      nat_lit 1152921504606846976))=
                  W then
               J
                (mo
                  (aby a7
                     ((if decide (a<(0:L))=W then ag data
                       else aby a7 (q+a))+
                       ag ([(60:ao),(47:ao)]++nm++[(62:ao)])),
                    a7.wrap (s.1+(1:L)),d))
              else O
        else O
      else O
     else O
    else O
def avw{data nm:M ao}{k b a:U}{P:M df}(E:data.length≤65536)(hk:k≤data.length)(hn:nm.length≤5)(F:b≤65536)(j:a≤k)(l:P.length≤1073741824):(∃at' e:L,e≠0∧Np data (k:L) nm ((b:L),data,aT P,(a:L))=J (.inr (.inl (O,at',e)))∧Nq data (k:L) nm ((b:L),data,(a:L),aT P)=J (.inr (.inl (O,at',e))))∨∃(k2 g:U)(h:M df),k<k2∧k2≤data.length∧g≤k2∧h.length=P.length+2∧Np data (k:L) nm ((b:L),data,aT P,(a:L))=J (.inl ((k2:L),((b+1:U):L),data,aT h,(g:L)))∧Nq data (k:L) nm ((b:L),data,(a:L),aT P)=J (.inl ((k2:L),((b+1:U):L),data,(g:L),aT h)):=by
 have c1:decide (nat_lit 2+nm.length≤nat_lit 1152921504606846976)=W:=by grind
 have q:decide (([(60:ao),(47:ao)]++nm).length+nat_lit 1≤nat_lit 1152921504606846976)=W:=by grind
 have r:decide ((0:L)≤(k:L)∧(k:L)≤ag data∧ag data≤ag data)=W:=by simp;omega
 have m:([(60:ao),(47:ao)]++nm++[(62:ao)]).length=nm.length+3:=by simp
 have u:=afG (s:=data) (t:=[(60:ao),(47:ao)]++nm++[(62:ao)]) hk (by simp) (by omega) (by rw[m];omega);have v:Fd.strings_Index (data.drop k) ((60:ao)::(47:ao)::(nm++[(62:ao)]))=J (w7 (data.drop k) ([(60:ao),(47:ao)]++nm++[(62:ao)])):=by grind [strings_Index]
 have w:=di (i:=b) (by omega);unfold Np Nq;rw[u];simp only[c1,q,r,iY,v,aG,bI,Bool.and_self];rcases Lib.index_spec (data.drop k) ([(60:ao),(47:ao)]++nm++[(62:ao)])with⟨e,_⟩|⟨i,e,hi,G,_⟩
 rw[e];let⟨f,d,at',n,o,p,_,x,h1,_⟩:=Nn (raw:=data.drop k) (by simp;omega);grind [iY,aG];have c:=ahS (data.drop k) ([(60:ao),(47:ao)]++nm++[(62:ao)]) (by rw[e];omega);rw[e,m,Hr]at c;rw[e];let⟨f,d,at',n,o,p,_,x,h1,_⟩:=Nn (raw:=bu (k:L) ((k+i:U):L) data) (by rw[gX];simp;omega);have d0:¬((i:L)<0):=by omega
 have y:(k:L)+(i:L)=((k+i:U):L):=by omega
 have z:a7.wrap ((k+i:U):L)=((k+i:U):L):=by grind [cf]
 have d1:decide (((k+i:U):L)≥0)=W:=by simp;omega
 have d2:decide ((i:L)<0)=I:=by simp
 have d3:decide ((0:L)≤(k:L)∧(k:L)≤((k+i:U):L)∧((k+i:U):L)≤ag data)=W:=by simp;omega
 have d4:decide (((k+i:U):L)<0)=I:=by simp;omega
 simp only[aV d0,y,z,d1,d2,d3,d4,kF,w6,bL,bI,ch,o,p,aG];by_cases A:n=0;right;subst A;have B:a7.wrap (((k+i:U):L)+ag ([(60:ao),(47:ao)]++nm++[(62:ao)]))=((k+i+nm.length+3:U):L):=by grind [dv,cf]
 have C:a7.wrap (((k+i:U):L)+ag nm)=((k+i+nm.length:U):L):=by grind [dv,cf]
 have D:a7.wrap (((k+i+nm.length:U):L)+3)=((k+i+nm.length+3:U):L):=by grind [cf]
 simp only[sE,bL,ch,w,Vi (b+1) (by omega),afj (b+1) (by omega),aG,Vj j (Nat.le_add_right k i) (show k+i≤data.length by omega) l,Vk j (Nat.le_add_right k i) (show k+i≤data.length by omega) l,B,C,D];exact⟨k+i+nm.length+3,k+i,_,by omega,by omega,by omega,by simp,rfl,rfl⟩;grind
def afH{s:M ao}{n:U}{nm:M ao}(h:ss s=J (n,nm)):1≤n∧n≤Y s∧(nm=[]∨qM nm=W):=by
 unfold ss at h;cases s with
 |nil=>cases h
 |cons c r=>simp only at h;split at h;cases h;simp;split at h;rename_i hp;have a:=(Od.1 hp).length_le;split at h;rename_i i hi;cases h;have:=ahS ((c::r).drop 4) [45,45,62] (by grind);grind;cases h;split at h;grind [lc];cases h
def afI{nm:M ao}(h:qM nm=W):nm.length≤5∧nm≠[]:=by unfold qM at h;simp only[Bool.or_eq_true,decide_eq_true_eq]at h;rcases h with rfl|rfl|rfl|rfl|rfl<;>simp
def afJ(l:M ao):iG (33::l)=I:=by
 unfold iG;have:pK 33=I:=by decide
 simp[this]
def afK(r:M ao):oX (33::r)=I:=by
 have h:iG (ic (33::r))=I:=by
  unfold ic;split;rename_i k _;cases k with|zero=>rfl|succ k=>exact afJ _
  exact afJ _
 unfold oX;rw[h];simp
def avx{s:M ao}(m:s≠[])(A:s.length≤65536):∃(a:L)(b:M ao),Lt s=J (match ss s with|none=>(a,b,I)|some (n,nm)=>((n:L),nm,W)):=by
 cases s with
 |nil=>exact cO rfl m|cons c r=>
  unfold Lt ss cr au ah bd;rw[aF (by simp[c8]),pX];by_cases o:c=60;subst o;have f:(aZ 60 !=60)=I:=rfl;simp only[f,bL,ch,GC,aG,ne_eq,not_true_eq_false];by_cases hp:[60,33,45,45].isPrefixOf (60::r)=W;have h:=(Od.1 hp).length_le;have p:bu (4:L) (ag (60::r)) (60::r)=(60::r).drop 4:=iY _ 4;have g:decide ((0:L)≤4∧(4:L)≤ag (60::r)∧ag (60::r)≤ag (60::r))=W:=by simp at h ⊢;omega
  have q:Fd.strings_Index ((60::r).drop 4) [45,45,62]=J (w7 ((60::r).drop 4) [45,45,62]):=by grind [strings_Index]
  simp only[aF hp,g,bI,p,q,aG];have t:=Lib.index_ge ((60::r).drop 4) [45,45,62];have d:=Lib.index_le ((60::r).drop 4) [45,45,62];rw[Hr]at d;cases hi:w7 ((60::r).drop 4) [45,45,62]with|ofNat i=>rw[hi]at d;have d:(i:L)≤(60::r).length:=(by grind);have w:a7.wrap (fW i+7)=((i+7:U):L):=(by grind [cf]);simp_all|negSucc i=>simp_all
  have k:[60,33,45,45].isPrefixOf (60::r)=I:=Bool.not_eq_true _|>.mp hp;rw[k,afz (by omega)];simp only[bL,ch,aG];rcases lc (60::r) 62 with⟨e,_⟩|⟨j,e,B,u,_⟩
  simp_all;rw[e];have v:bu 1 (j:L) (60::r)=((60::r).take j).drop 1:=gX _ 1 j;by_cases l:j<1;grind;have d:=B8 (((60::r).take j).drop 1);have x:=Nl (s:=(ie (((60::r).take j).drop 1)).2) (by grind);have y:((j:U):L)+1=((j+1:U):L):=by omega
  have z:¬((j:L)<1):=by omega
  simp only[Int.ofNat_eq_natCast,aV l,aV z,v];cases hT:qN (((60::r).take j).drop 1);exact⟨_,_,rfl⟩;simp only[kF,bL,ch,bI,x,aG,Vw];cases C:qM (ic (ie (((60::r).take j).drop 1)).2);exact⟨0,[],rfl⟩;simp only[kF,bL,ch,bI];by_cases h2:(ie (((60::r).take j).drop 1)).1=2;simp_all;simp_all;have f:(aZ c !=60)=W:=by have:=GX c;grind
  simp_all
def avy{data:M ao}{k:U}(hk:k<Y data)(g:Y data≤65536)(s:L×M ao×L×Q (M df)):
  Fg data ((k:L),s)=match ss (data.drop k)with|none=>J (.inr (.inl (O,(k:L),2)))|some (n,c)=>if c=[]then J (.inl (((k+n:U):L),s))else Nq data ((k+n:U):L) c s:=by
 have c1:decide ((k:L)<ag data)=W:=by simp;omega
 have d:decide ((0:L)≤(k:L)∧(k:L)≤ag data∧ag data≤ag data)=W:=by simp;omega
 let⟨a,b,e⟩:=avx (s:=data.drop k) (λh=>by have:=bX wX h;simp at this;omega) (by simp;omega)
 unfold Fg iw cr au aK ah ay bd aH aA c9 bv jh;dsimp-proj only[aj]
 simp only[c1,d,bI,iY,e,aG]
 cases f:ss (data.drop k)with
 |none=>rfl|some x=>
  let⟨n,c⟩:=x;let⟨h1,h2,h3⟩:=afH f;rw[Hr]at h2;have w:aby a7 ((k:L)+(n:L))=((k+n:U):L):=by grind [cf]
  simp only[kF,bL,ch,w];by_cases hn:c=[];grind;rw[aV hn,aV (by simpa using hn)];rfl
def avz{data:M ao}{k:U}(hk:k<data.length)(Y:data.length≤65536)(s:L×M ao×Q (M df)×L):
  yL data ((k:L),s)=match ss (data.drop k)with|none=>J (.inr (.inl (O,(k:L),2)))|some (n,z)=>if z=[]then J (.inl (((k+n:U):L),s))else Np data ((k+n:U):L) z s:=by
 have c1:decide ((k:L)<ag data)=W:=by simp;omega
 have D:decide ((0:L)≤(k:L)∧(k:L)≤ag data∧ag data≤ag data)=W:=by simp;omega
 have E:(decide ((0:L)≤(k:L))&&bT (Int.toNat (k:L)) data.length)=W:=by simp[c8];omega
 have a:(data.drop k).length=data.length-k:=by simp
 cases f:data.drop k with
 |nil=>grind|cons c r=>
  have F:data.getD (Int.toNat (k:L)) 0=c:=by have h1:(data.drop k)[0]?=J c:=(by rw[f];rfl);grind
  rw[f]at a;have g:r.length+1=data.length-k:=a;unfold yL iw cr au aK ah cz ay bd aH aA de bv jh;dsimp-proj only[aj];simp only[c1,D,E,bI,F,iY,f,tX,aG];by_cases G:c=60;subst G;have l:(aZ 60 !=60)=I:=rfl;simp only[l,bL,ch];have b:=afA (s:=60::r) (by omega) (by simp);have fin:∀(hp:ac3 [60,33,45,45] (60::r)=W),(if fm (60::r) 62<1 then(((0,[],0),0):aN×L)else if qN (bu 1 (fm (60::r) 62) (60::r))=W then(((ie (bu 1 (fm (60::r) 62) (60::r))).1,(ie (bu 1 (fm (60::r) 62) (60::r))).2,0),fm (60::r) 62+1)else((0,[],0),0))=((0,[],0),0):=by
   intro hp;rcases lc (60::r) 62 with⟨e,_⟩|⟨j,e,A,m,_⟩
   rw[e];rfl;rw[e];have o:bu 1 (j:L) (60::r)=((60::r).take j).drop 1:=gX _ 1 j;let⟨t,H⟩:=Od.1 hp;obtain rfl:r=33::45::45::t:=(by simpa using H.symm);have K:4≤j:=by
    match j,A with|0,h=>simp at h|1,h=>simp at h|2,h=>simp at h|3,h=>simp at h|j+4,_=>omega
   obtain⟨j',rfl⟩:∃j',j=j'+4:=⟨j-4,by omega⟩;have N:((60::33::45::45::t).take (j'+4)).drop 1=33::45::45::t.take j':=(by simp);have p:qN (33::45::45::t.take j')=I:=(by unfold qN ie;rw[aV (by simp),aV (by simp)];split;simpa using afK _;exact afK _);rw[o,N,p];simp
  unfold ss;simp only[ne_eq,not_true_eq_false,ch];by_cases hp:ac3 [60,33,45,45] (60::r)=W;have q:=(Od.1 hp).length_le;have P:aby a7 ((k:L)+4)=((k+4:U):L):=by grind [cf]
  have d:4≤(60::r).length:=q;have B:=afG (s:=data) (t:=[45,45,62]) (k:=k+4) (by simp at d;omega) (by simp) (by omega) (by simp);have hd:data.drop (k+4)=(60::r).drop 4:=by rw[←f,List.drop_drop]
  rw[hd]at B;simp only[aF hp,P,B,aG];have R:=Lib.index_ge ((60::r).drop 4) [45,45,62];have u:=Lib.index_le ((60::r).drop 4) [45,45,62];cases hi:w7 ((60::r).drop 4) [45,45,62]with|ofNat i=>grind [cf]|negSucc i=>grind [aG,wK]
  have v:ac3 [60,33,45,45] (60::r)=I:=Bool.not_eq_true _|>.mp hp;simp only[v,bL,ch,b,aG];rcases lc (60::r) 62 with⟨e,_⟩|⟨j,e,A,m,_⟩
  simp_all [wK];rw[e];have o:bu 1 (j:L) (60::r)=((60::r).take j).drop 1:=gX _ 1 j;by_cases x:j<1;grind;have u:=B8 (((60::r).take j).drop 1);have C:(((60::r).take j).drop 1).length≤(60::r).length:=by simp;omega
  have S:¬((j:L)<1):=by omega
  simp only[Int.ofNat_eq_natCast,aV x,aV S,o];cases hT:qN (((60::r).take j).drop 1);rfl;have T:=wK (s:=(ie (((60::r).take j).drop 1)).2) (by omega);have V:(((j:L)+1==0)=I):=by grind
  have w:aby a7 ((k:L)+((j:L)+1))=((k+(j+1):U):L):=by grind [cf]
  simp only[bI,T,V,aG,Vv,bL,ch,w];cases X:qM (ic (ie (((60::r).take j).drop 1)).2);simp;have y:=(afI X).2;by_cases h2:(ie (((60::r).take j).drop 1)).1=2;simp only[h2,sE,Bool.and_false,bL,ch,kF,bI,aV y];rfl;grind;grind [GX,cf,ss]
def avA{data:M ao}(d:Y data≤65536):∃r q,bR (Fg data) (0,0,data,0,O)=J r∧bR (yL data) (0,0,data,O,0)=J q∧((∃a e:L,e≠0∧r=.inl (O,a,e)∧q=.inl (O,a,e))∨∃(a:U)(P:M df),a≤Y data∧Y P≤2*Y data∧r=.inr (data,(a:L),aT P)∧q=.inr (data,aT P,(a:L))):=by
 refine qI (λx y=>∃(k b a:U)(P:M df),k≤Y data∧b≤k∧a≤k∧Y P≤2*k∧x=((k:L),(b:L),data,(a:L),aT P)∧y=((k:L),(b:L),data,aT P,(a:L))) _ (λx=>Y data-G x.1) (λx y h=>?_) ⟨0,0,0,[],by omega,by omega,by omega,by simp,rfl,rfl⟩ (cM (cA (by simp;omega)));obtain⟨k,b,a,P,hk,p,s,t,rfl,rfl⟩:=h;rcases js k (Y data) with c|i
 rw[avy c d,avz c d];cases j:ss (data.drop k)with
 |none=>simp_all|some x=>
  let⟨n,nm⟩:=x;let⟨h1,h2,h3⟩:=afH j;rw[Hr]at h2;by_cases hn:nm=[];left;simp only[aF hn];exact⟨_,_,rfl,rfl,⟨k+n,b,a,P,by omega,by omega,by omega,by omega,rfl,rfl⟩,by simp;omega⟩;have l:=afI (h3.resolve_left hn);simp only[aV hn];rcases avw (data:=data) (nm:=nm) (k:=k+n) (b:=b) (a:=a) (P:=P) d (by omega) l.1 (by omega) (by omega) (by omega)with⟨at',e,u,f,g⟩|⟨k2,m,o,v,w,z,A,f,g⟩
  grind;left;rw[f,g];exact⟨_,_,rfl,rfl,⟨k2,b+1,m,o,by omega,by omega,by omega,by omega,rfl,rfl⟩,by simp;omega⟩
 right;have c1:decide ((k:L)<ag data)=I:=by simp;omega
 unfold Fg yL iw cr au aK ah cz ay bd aH aA c9 de bv jh;dsimp-proj only[aj];simp only[c1,bL,ch];exact⟨_,_,rfl,rfl,.inr ⟨a,P,by omega,by omega,rfl,rfl⟩⟩
def avB{data:M ao}(b:Y data≤65536):∃P at' e,Br data=J (P,at',e)∧Fh data=J (P,at',e)∧Y (X P [])≤2*Y data+1:=by
 let⟨r,q,d,f,h⟩:=avA b;unfold Br Fh yS aX aK;have c:decide (ag data>65536)=I:=by simp;omega
 rw[f,c];simp only[bL,ch,aG,d];rcases h with⟨a,e,g,rfl,rfl⟩|⟨a,P,i,j,rfl,rfl⟩
 simp_all;unfold tF yT au al bv;simp only[aG,pz,cw];rw[aF (by simp;omega),aF (by simp;omega)];simp_all
def afL{raw:M ao}{k:U}(hk:k<raw.length)(F:raw.length≤67108864)(a:Q (M aN))(b d:Q (M L))(m la:L):(vZ (raw.drop k)=J ((0,[],0),0)∧yV raw (k:L) (a,b,d,m,la)=J ((k:L),2,a,b,d,m,la))∨(∃n:U,2≤n∧k+n≤raw.length∧vZ (raw.drop k)=J ((0,[],0),(n:L))∧yV raw (k:L) (a,b,d,m,la)=J (((k+n:U):L),0,a,b,d,m,la))∨(∃(t:ao)(n:U),1≤n∧k+n≤raw.length∧vZ (raw.drop k)=J ((1,[t],0),(n:L))∧yV raw (k:L) (a,b,d,m,la)=aq (BL (aZ t) m (a,b,d,m,la)) λr=>if(!r.fst)=W then J ((k:L),3,r.snd)else J (((k+n:U):L),0,r.snd.fst,r.snd.snd.fst,r.snd.snd.snd.fst,((k+n:U):L),((k+n:U):L)))∨(∃(nm:M ao)(n:U),nm.length+2=n∧k+n≤raw.length∧vZ (raw.drop k)=J ((5,nm,0),(n:L))∧yV raw (k:L) (a,b,d,m,la)=aq (Fk (5,nm,0) m (a,b,d,m,la)) λr=>if(!r.fst)=W then J ((k:L),3,r.snd)else J (((k+n:U):L),0,r.snd.fst,r.snd.snd.fst,r.snd.snd.snd.fst,((k+n:U):L),((k+n:U):L))):=by
 have f:(raw.drop k).length=raw.length-k:=by simp
 have G:aby a7 ((k:L)+2)=((k+2:U):L):=by grind [cf]
 have H:=di (i:=k) (by omega);have u:=λh=>au0 (raw:=raw) (k:=k) h F;unfold yV aX cr au aK ah ay bd fE bv;dsimp-proj only[aj];rw[aF (by simp;omega),iY,Vg,H,G];cases K:raw.drop k with
 |nil=>grind|cons c r=>
  rw[K]at f u;simp only[kO]at f;have N:bT 0 (c::r).length=W:=by simp[c8]
  unfold vZ aX au aK ah fE bv;dsimp-proj only[aj];simp only[N,pX,uz,bI,sk,b92,afn];by_cases z:c=10;grind;have w:(c==10)=I:=by simpa using z
  by_cases p:c=123;subst p;have A:=Va (s:=123::r) (by simp) (by simp) (by simp;omega);have o:((123:ao)==92)=I:=rfl;have l:((123:ao)==123)=W:=rfl;simp only[w,o,l,A,aG,bL,ch,bI,sB,xg,qX,HP];unfold jY;rcases lc (123::r) 125 with⟨e,hn⟩|⟨j,e,P,B,hn⟩
  grind;have R:j≠0:=λh=>by subst h;simp at P
  simp only[kO]at B;have S:bu 1 (j:L) (123::r)=((123::r).take j).drop 1:=gX (123::r) 1 j;have T:(((123::r).take j).drop 1).length=j-1:=by simp;omega
  have g:decide ((0:L)≤1∧1≤(j:L)∧(j:L)≤ag (123::r))=W:=by simp;omega
  have V:aby a7 (aby a7 ((k:L)+(j:L))+1)=((k+(j+1):U):L):=by grind [cf]
  rw[e,aV (by simp),g,S,wG,V];simp only[Int.ofNat_eq_natCast,aG,bI];cases X:iG (((123::r).take j).drop 1);grind;right;right;grind;have l:(c==123)=I:=by simpa using p
  by_cases x:c=92;subst x;have o:((92:ao)==92)=W:=rfl;cases r with
  |nil=>simp|cons t r=>
   have C:bT 1 (92::t::r).length=W:=(by simp[c8]);have D:decide (ag (92::t::r)>1)=W:=(by simp;omega);have E:decide (ag (92::t::r)<2)=I:=(by simp;omega);have hi:fW t.toNat=aZ t:=rfl;simp only[w,o,l,C,D,E,List.getD_cons_succ,pX,sk,hi,au2,au1,aG,bL,ch,bI,kF,sB,xg,w6,zQ,qX,uz,HP];by_cases t10:t=10;right;left;subst t10;let⟨n,Y,Z,q3,q4⟩:=u (by simp at f;omega);refine⟨n,Y,Z,?_,?_⟩;simp only[B7];simp_all;simp_all;have q:(t==10)=I:=(by simpa using t10);have y:(aZ t !=10)=W:=(by unfold bne;rw[sk,q];rfl);rw[q,y];cases hE:B7 t with|none=>simp_all|some v=>right;right;left;exact⟨v,2,by omega,by simp at f;omega,rfl,by simp⟩
  have o:(c==92)=I:=by simpa using x
  right;right;left;refine⟨c,1,by omega,by omega,?_,?_⟩;have:=Vb c;simp_all [aZ,oM];grind
def RX(raw:M ao)(x:L×afl)(y:Q (M aN)×Q (M aN)×Q (M L)×L×L×L):Prop:=∃(k a:U)(items:M aN)(text:M ao)(b:Q (M L))(cs:M L),k≤Y raw∧a≤k∧x=((k:L),aT items,b,aT cs,(a:L),(a:L))∧X b []=fN text∧y=(aT (dB items text),O,aT cs,(k:L),(a:L),0)∧qJ items∧bm items+(Y text+1)≤2*k+1∧Y cs≤k
def SX(raw:M ao)(r:(bV×L×L)⊕afl)(q:(Q (M aN)×Q (M L)×L×L)⊕(Q (M aN)×Q (M aN)×Q (M L)×L)):Prop:=(∃(k:U)(e:L),k≤Y raw∧e≠0∧r=.inl ((),(k:L),e)∧q=.inl (O,O,(k:L),e))∨∃(a:U)(items:M aN)(text:M ao)(b:Q (M L))(cs:M L),a≤Y raw∧r=.inr (aT items,b,aT cs,(a:L),(a:L))∧X b []=fN text∧q=.inr (aT (dB items text),O,aT cs,(a:L))∧qJ items∧bm items+(Y text+1)≤2*Y raw+1∧Y cs≤Y raw
def afM{raw:M ao}(F:Y raw≤67108864):∃r q,bR (Lw raw) (0,O,O,O,0,0)=J r∧bR (nF 2 raw) (O,O,O,0,0,0)=J q∧SX raw r q:=by
 refine qI (RX raw) (SX raw) (λx=>Y raw-x.1.toNat) (λx y h=>?_) ⟨0,0,[],[],O,[],by omega,by omega,rfl,rfl,rfl,⟨rfl,by simp⟩,by simp[bm],by simp⟩ (cM (cA (by simp;omega)));obtain⟨k,d,items,text,z,cs,hk,A,rfl,u,rfl,e,i,B⟩:=h;rcases js k (Y raw) with C|G
 have H:=eT items;have K:=wI items text;have N:=eT (dB items text);have c:∀x:aN,bm [x]=Y x.2.1+1:=λx=>by simp[bm]
 have c1:decide ((k:L)<ag raw)=W:=by simp;omega
 have P:decide (0≤(k:L)∧(k:L)≤ag raw∧ag raw≤ag raw)=W:=by simp;omega
 have R:∀s,rW 2 s=vZ s:=λs=>by unfold rW ah;exact ab8 _
 unfold Lw nF cJ cr au aK ah al ay bd aH aA bv;dsimp-proj only[aj];simp only[c1,P,bI,iY,R,aG];rcases afL C F (aT items) z (aT cs) (d:L) (d:L)with⟨f,g⟩|⟨n,hn,j,f,g⟩|⟨t,n,hn,j,f,g⟩|⟨v,n,hn,j,f,g⟩
 right;rw[g,f];exact⟨_,_,rfl,rfl,.inl ⟨k,2,hk,by omega,rfl,rfl⟩⟩;left;rw[g,f];have l:(((n:L)==0)=I):=by grind
 have w:aby a7 ((k:L)+(n:L))=((k+n:U):L):=by grind [cf]
 simp only[aG,l,w];exact⟨_,_,rfl,rfl,⟨k+n,d,items,text,z,cs,by omega,by omega,rfl,u,rfl,e,by omega,by omega⟩,by simp;omega⟩;rw[g,f,auU,Vd u (by omega) (by omega) (by omega)];have l:(((n:L)==0)=I):=by grind
 have w:aby a7 ((k:L)+(n:L))=((k+n:U):L):=by grind [cf]
 have m:=mR (a:=aT (dB items text)) (b:=J [(1,[t],0)]) (by simp[c];omega);rw[cw,fL,qK,tY e,Vc e]at m;have o:Y (dB items (text++[t]))=Y items+1:=by rw[Nf];simp
 simp only[l,w,m,cw,o,aG,dv];by_cases p:Y items+1>512∨Y cs≥1024;right;simp only[aF p];refine⟨_,_,rfl,?_,.inl ⟨k,3,hk,by omega,rfl,rfl⟩⟩;simp;omega;left;simp only[aV p];refine⟨_,_,rfl,?_,⟨k+n,k+n,items,text++[t],J (fN (text++[t])),cs++[(d:L)],by omega,by omega,rfl,rfl,rfl,e,by simp;omega,by simp;omega⟩,by simp;omega⟩;grind [jM];rw[g,f,auV];let⟨D,E,S⟩:=GG (items:=items) u (by omega) (show Y cs≤1073741824 by omega) (5,v,0) (d:L);rw[S];have l:(((n:L)==0)=I):=by grind
 have w:aby a7 ((k:L)+(n:L))=((k+n:U):L):=by grind [cf]
 have m:=mR (a:=aT (dB items text)) (b:=J [(5,v,0)]) (by simp[c];omega);let⟨f1,f2⟩:=GD e text (x:=(5,v,0)) (show(5:L)≠1 by decide);rw[cw,fL,qK,tY e,f1]at m;simp only[l,w,m,cw,aG,dv,lg,kO,Cs];by_cases p:Y (dB items text)+1>512∨Y cs≥1024;right;simp only[aF p];refine⟨_,_,rfl,?_,.inl ⟨k,3,hk,by omega,rfl,rfl⟩⟩;simp;omega;left;simp only[aV p];refine⟨_,_,rfl,?_,⟨k+n,k+n,dB items text++[(5,v,0)],[],D,cs++[(d:L)],by omega,by omega,rfl,E,rfl,f2,by grind [jl],by simp;omega⟩,by simp;omega⟩;grind [jM,dB];right;have:k=Y raw:=by omega
 subst this;have c1:decide (((Y raw:U):L)<ag raw)=I:=by simp
 unfold Lw nF cJ cr au aK ah al ay bd aH aA bv;dsimp-proj only[aj];simp only[c1];exact⟨_,_,rfl,rfl,.inr ⟨d,items,text,z,cs,A,rfl,u,rfl,e,i,B⟩⟩
theorem afN{raw:M ao}(i:Y raw≤67108864):∃f a at' e,gW 2 raw=J (f,a,at',e)∧yW raw=J (f,at',e)∧0≤at'∧at'≤Y raw∧bm (X f [])≤2*Y raw+2:=by
 let⟨r,q,j,l,h⟩:=afM i;unfold gW yW Fl aX au aK ah al bv;rw[j,l];rcases h with⟨k,e,hk,m,rfl,rfl⟩|⟨c,items,text,n,cs,o,rfl,p,rfl,v,g,s⟩
 refine⟨O,O,k,e,rfl,?_,by omega,by omega,by simp[bm]⟩;simp[m];have t:=eT items;have u:=wI items text;have d:∃b,BK (aT items,n,aT cs,(c:L),(c:L))=J (aT (dB items text),b):=by unfold BK au;rw[Vl,GF p (by omega)];simp_all
 let⟨b,d⟩:=d;refine⟨aT (dB items text),J (cs++[(c:L)]),0,0,?_,?_,by omega,by omega,by rw[cw];omega⟩;simp;omega;simp[d]
def avC{data:M ao}(a:Y data≤67108864)(p:az){k:U}(hk:k≤Y data):∃n:U,k≤n∧n≤Y data∧tH data (k:L) p=J (n:L):=by
 obtain⟨r,e,n,h1,h2,rfl⟩:=gs (f:=yM data p) (λx=>∃n:U,k≤n∧n≤Y data+1∧x=(n:L)) (λx=>Y data+2-G x) (λr=>∃n:U,k≤n∧n≤Y data+1∧r=(n:L)) (λx h=>by
  obtain⟨n,h1,h2,rfl⟩:=h
  unfold yM au ah cz ay aH aA de
  have b:=di (i:=n) (by omega)
  have c:aby a7 (((n+1:U):L)+1)=((n+2:U):L):=by grind [cf]
  by_cases hn:n<Y data
  have c1:decide ((n:L)<ag data)=W:=by simp;omega
  have d:bT n (Y data)=W:=(c8 _ _).2 hn
  grind
  grind [ag]) (k:L) ⟨k,by omega,by omega,rfl⟩ (kQ (xf _ _) (kQ (show Y data+2≤67108866 by omega) (by decide)))
 grind [tH,aG,jw,dv]
def avD(data:M ao)(at':L):Sw data at'=tH data at' W:=by rfl
def kM(c:ao):az:=(decide (aZ c≥97)&&decide (aZ c≤122))||(decide (aZ c≥48)&&decide (aZ c≤57))||aZ c==46||aZ c==95||aZ c==45
theorem afO(c:ao):K3 (aZ c)=J (kM c):=by grind [K3,kM]
theorem afP(c:ao):(if decide (aZ c≥(97:L))=W then !decide (aZ c≤(122:L))&& if decide (aZ c≥(48:L))=W then !decide (aZ c≤(57:L))&& (!aZ c==(46:L)&& (!aZ c==(95:L)&& !aZ c==(45:L))) else !aZ c==(46:L)&& (!aZ c==(95:L)&& !aZ c==(45:L))
  else
   if decide (aZ c≥(48:L))=W then
    !decide (aZ c≤(57:L))&&
     (!aZ c==(46:L)&&
       (!aZ c==(95:L)&&
         !aZ c==(45:L)))
   else
    !aZ c==(46:L)&&
     (!aZ c==(95:L)&&
       !aZ c==(45:L)))= !kM c:=by
 grind [kM]
def ud{α:Type}(p:α→az):∀s:M α,Y (s.takeWhile p)≤Y s∧(∀i,i<Y (s.takeWhile p)→∀h:i<Y s,p s[i]=W)∧∀h:Y (s.takeWhile p)<Y s,p s[Y (s.takeWhile p)]=I|[]=>by simp|c::s=>by let⟨h1,h2,h3⟩:=ud p s;grind [HQ]
def avE{s:M ao}(d:Y s≤67108864):Ly s=J ((min 65 (Y (s.takeWhile kM)):U):L):=by
 let⟨h1,h2,h3⟩:=ud kM s;have:=eS (f:=Lx s) (min 65 (Y (s.takeWhile kM))) (λi=>(i:L)) (r:=((min 65 (Y (s.takeWhile kM)):U):L)) (λi hi=>by
  have a:i<Y s:=by omega
  have hk:=h2 i (by omega) a
  unfold Lx au aK ah cz ay aH aA de;dsimp-proj only[aj]
  have e:H s i 0=s[i]:=by grind
  grind [cf,ag,c8,afP]) (by
  unfold Lx au aK ah cz ay aH aA de;dsimp-proj only[aj]
  by_cases b:Y (s.takeWhile kM)<65
  have c:min 65 (Y (s.takeWhile kM))=Y (s.takeWhile kM):=by omega
  simp only[c]
  by_cases a:Y (s.takeWhile kM)<Y s
  grind [c8,afP]
  grind [ag]
  grind) (kQ (show min 65 (Y (s.takeWhile kM))≤65 by omega) (by decide))
 grind [Ly,aG]
def avF{data:M ao}(g:Y data≤67108864){k:U}(hk:k≤Y data)(z:M ao×Q (M (az×M ao×M ao))×L):bR (EJ data ((k:L),z)) (k:L)=J ((k+min 64 (Y ((data.drop k).takeWhile kM)):U):L):=by
 let⟨h1,h2,h3⟩:=ud kM (data.drop k);generalize hn:Y ((data.drop k).takeWhile kM)=n at h1 h2 h3;have hd:Y (data.drop k)=Y data-k:=by simp
 have w0:aby a7 ((k:L)+64)=((k+64:U):L):=by grind [cf]
 have:=eS (f:=EJ data ((k:L),z)) (min 64 n) (λi=>((k+i:U):L)) (r:=((k+min 64 n:U):L)) (λi hi=>by
  have a:k+i<Y data:=by omega
  have hk:=h2 i (by omega) (by omega)
  rw[Cx]at hk
  unfold EJ iW aK ah cz ay bd aH aA fE
  have b:H data (k+i) 0=data[k+i]:=by grind
  have c:fW data[k+i].toNat=aZ data[k+i]:=rfl
  grind [cf,ag,c8,afO,aG]) (by
  unfold EJ iW aK ah cz ay bd aH aA fE
  simp only[w0]
  by_cases d:n<64
  have e:min 64 n=n:=by omega
  simp only[e]
  by_cases a:k+n<Y data
  have hk:=h3 (by omega)
  rw[Cx]at hk
  have b:H data (k+n) 0=data[k+n]:=by grind
  have c:fW data[k+n].toNat=aZ data[k+n]:=rfl
  grind [c8,afO,aG]
  grind [ag]
  grind) (kQ (show min 64 n≤64 by omega) (by decide))
 exact this
theorem Nr{V:Type}(x:M ao)(r:M ao×V)(l:M (M ao×V)):du .bh x (r::l)=if x=r.1 then J r.2 else du .bh x l:=by grind [jH,du]
def avG{V:Type}(x:M ao)(y:V)(r:M ao×V)(l:M (M ao×V)):fZ .bh x y (r::l)=if x=r.1 then(x,y)::l else r::fZ .bh x y l:=by grind [jH,fZ]
def avH{V:Type}(x:M ao)(y:V):fZ .bh x y []=[(x,y)]:=rfl
theorem afQ{V:Type}(z x:M ao)(y:V):∀l:M (M ao×V),du .bh z (fZ .bh x y l)=if z=x then J y else du .bh z l|[]=>by rw[avH,Nr]|r::l=>by rw[avG];by_cases h:x=r.1;grind [Nr];rw[aV h,Nr,Nr,afQ z x y l];grind
def GZ(P:M df)(key:M ao):az:=P.any λp=>p.1&&decide (p.2.1=key)
def KM(m:M (M ao×az))(P:M df):Prop:=∀key,X (du .bh key m) I=GZ P key
def avI:KM [] []:=λ_=>rfl
def avJ{m:M (M ao×az)}{P:M df}(h:KM m P)(key x y:M ao):KM (fZ .bh key W m) (P++[(I,[],x),(W,key,y)]):=λz=>by have:=h z;grind [GZ,afQ]
def avK{P:M df}(a:Y P≤67108864)(key:M ao):K2 (aT P) key=J (GZ P key):=by
 have:=wF (f:=EI (aT P) key) P (λp=> !(p.1&&decide (p.2.1=key))) W 0 (λi h _=>by
  unfold EI au aK ah al ay aH aA;dsimp-proj only[aj]
  have b:H P i (I,[],[])=P[i]:=by grind
  grind [cf,ag,c8,cw]) (by
  grind [EI,ag,cw]) (Y P) 0 fuel (by omega) (kQ a (by decide)) (by omega)
 unfold K2 aX;have e:bR (EI (aT P) key) 0=J (if(P.drop 0).all (λp=> !(p.1&&decide (p.2.1=key)))then .inr ()else .inl W):=this;rw[e,aG,Hz];unfold GZ;have h2:(P.all λp=> !(p.1&&decide (p.2.1=key)))= !(P.any λp=>p.1&&decide (p.2.1=key)):=by grind
 rw[h2];cases(P.any λp=>p.1&&decide (p.2.1=key))<;>rfl
def gY(c:ao):az:= !(c==10)
def gM(c:ao):az:=c==32||c==9
def G0{α:Type}{p:α→az}:∀{s:M α}{k:U},(∀i,i<k→∀h:i<Y s,p s[i]=W)→(k=Y s∨∃h:k<Y s,p s[k]=I)→(s.takeWhile p)=s.take k|[],k,_,_=>by simp|c::s,0,_,h=>by simp_all|c::s,k+1,h1,h2=>by have a:p c=W:=h1 0 (by omega) (by simp);simp only[HQ,a,bI,List.take_succ_cons];congr 1;refine G0 (λi hi h=>h1 (i+1) (by omega) (by simpa using h)) ?_;grind
def avL(s:M ao):BH s [10]=J (fm s 10):=by unfold BH cr au ah fE;by_cases h:([10]:M ao)=s;subst h;rfl;simp[h,c8];rfl
def avM{s:M ao}(d:Y s≤1073741824):∃b,tL s [10]=J (s.takeWhile gY,b):=by
 unfold tL Ln au aK bd;rw[avL,aG];rcases lc s 10 with⟨e,hn⟩|⟨k,e,hk,a,hn⟩
 rw[e];have:s.takeWhile gY=s:=by rw[G0 (k:=Y s) (λi _ h=>by have:=hn i;simp_all [gY]) (.inl rfl),ur]
 simp_all;rw[e];have w:aby a7 ((k:L)+ag [(10:ao)])=((k+1:U):L):=by rw[cf (by simp;omega) (by simp;omega)];simp
 have c:bu 0 (k:L) s=s.take k:=gX s 0 k;rw[aF (by simp),w,aF (by simp;omega),iY,c];have:s.takeWhile gY=s.take k:=G0 (λi hi h=>by grind [gY]) (.inr ⟨a,by grind [gY]⟩);simp_all
def avN{data:M ao}(g:Y data≤67108864){k:U}(hk:k≤Y data):tH data (k:L) I=J ((k+Y ((data.drop k).takeWhile gY):U):L):=by
 let⟨h1,h2,h3⟩:=ud gY (data.drop k);generalize hn:Y ((data.drop k).takeWhile gY)=n at h1 h2 h3;have hd:Y (data.drop k)=Y data-k:=by simp
 have:bR (yM data I) (((k+0:U):L))=J ((k+n:U):L):=eS (f:=yM data I) n (λi=>((k+i:U):L)) (r:=((k+n:U):L)) (λi hi=>by
  have a:k+i<Y data:=by omega
  have hk:=h2 i hi (by omega)
  rw[Cx]at hk
  unfold yM au ah cz ay aH aA de
  have b:H data (k+i) 0=data[k+i]:=by grind
  have h:aby a7 (((k+i:U):L)+1)=((k+(i+1):U):L):=by grind [cf]
  have c1:decide (((k+i:U):L)<ag data)=W:=by simp;omega
  have c:bT (k+i) (Y data)=W:=(c8 _ _).2 a
  have d:decide ((0:L)≤((k+i:U):L))=W:=by simp;omega
  have e:(aZ data[k+i] !=10)=W:=by unfold bne;rw[sk];exact hk
  grind) (by
  unfold yM au ah cz ay aH aA de
  by_cases a:k+n<Y data
  have hk:=h3 (by omega)
  rw[Cx]at hk
  have b:H data (k+n) 0=data[k+n]:=by grind
  have c1:decide (((k+n:U):L)<ag data)=W:=by simp;omega
  have c:bT (k+n) (Y data)=W:=(c8 _ _).2 a
  have d:decide ((0:L)≤((k+n:U):L))=W:=by simp;omega
  have e:(aZ data[k+n] !=10)=I:=by unfold bne;rw[sk];exact hk
  grind
  grind [ag]) (kQ (show n≤67108864 by omega) (by decide))
 grind [tH,aG,jw,dv]
def avO{data:M ao}(c:Y data≤67108864){k:U}(hk:k≤Y data):bR (yN data) (k:L)=J ((k+Y ((data.drop k).takeWhile gM):U):L):=by
 let⟨h1,h2,h3⟩:=ud gM (data.drop k);generalize hn:Y ((data.drop k).takeWhile gM)=n at h1 h2 h3;have hd:Y (data.drop k)=Y data-k:=by simp
 have:bR (yN data) (((k+0:U):L))=J ((k+n:U):L):=eS (f:=yN data) n (λi=>((k+i:U):L)) (r:=((k+n:U):L)) (λi hi=>by
  have a:k+i<Y data:=by omega
  have hk:=h2 i hi (by omega)
  rw[Cx]at hk
  unfold gM at hk
  unfold yN au ah cz ay aH aA de
  have b:H data (k+i) 0=data[k+i]:=by grind
  grind [cf,ag,c8,Vm,b9]) (by
  unfold yN au ah cz ay aH aA de
  by_cases a:k+n<Y data
  have hk:=h3 (by omega)
  rw[Cx]at hk
  unfold gM at hk
  have b:H data (k+n) 0=data[k+n]:=by grind
  grind [c8,Vm,b9]
  grind [ag]) (kQ (show n≤67108864 by omega) (by decide))
 exact this
def avP{α:Type}(p:α→az){s:M α}{m:U}(h:m≤Y (s.takeWhile p)):Y ((s.drop m).takeWhile p)=Y (s.takeWhile p)-m:=by
 let⟨h1,h2,h3⟩:=ud p s;have hd:Y (s.drop m)=Y s-m:=by simp
 rw[G0 (k:=Y (s.takeWhile p)-m) (λi hi a=>by grind) (by grind)];simp;omega
def afR{α:Type}(p:α→az):∀s:M α,s.dropWhile p=s.drop (Y (s.takeWhile p))|[]=>rfl|c::s=>by by_cases h:p c=W;simp[List.dropWhile_cons,HQ,h,afR p s];simp_all
theorem avQ(c:ao)(h1:gY c=I)(h2:gM c=W):False:=by simp_all [gY,gM]
theorem Vy{α:Type}(p:α→az){s:M α}{i:U}(h:i<Y (s.takeWhile p))(a:i<Y s):(s.takeWhile p)[i]=s[i]:=(List.takeWhile_prefix p).getElem h
def avR(hT:∀s:M ao,Y s≤67108864→pI s [32,9]=J (s.dropWhile gM)){data:M ao}(j:Y data≤67108864){k:U}(hk:k≤Y data):
  ∃(m a:U)(b:az),k+m≤Y data∧k+a≤Y data∧m≤a∧LA data (k:L)=J (((min (k+a+1) (Y data):U):L),b)∧bR (yN data) (k:L)=J ((k+m:U):L)∧
   (decide (((k+m:U):L)≥ag data)||(aZ (data.getD (k+m) 0)==10||aZ (data.getD (k+m) 0)==35))=b∧tH data ((k+m:U):L) I=J ((k+a:U):L):=by
 have hd:Y (data.drop k)=Y data-k:=by simp
 have o:=avO j hk
 let⟨D,p,l⟩:=ud gM (data.drop k)
 let⟨E,F,q⟩:=ud gY (data.drop k)
 have c:Y ((data.drop k).takeWhile gM)≤Y ((data.drop k).takeWhile gY):=by grind [avQ]
 have n:=avN j (k:=k+Y ((data.drop k).takeWhile gM)) (by omega)
 have f:(data.drop (k+Y ((data.drop k).takeWhile gM)))=(data.drop k).drop (Y ((data.drop k).takeWhile gM)):=by rw[List.drop_drop]
 rw[f,avP gY c]at n
 let⟨z,r⟩:=avM (s:=data.drop k) (by omega)
 have g:Y (((data.drop k).takeWhile gY).takeWhile gM)=Y ((data.drop k).takeWhile gM):=by
  rw[G0 (s:=(data.drop k).takeWhile gY) (k:=Y ((data.drop k).takeWhile gM)) (λi hi h=>by
   have:=p i hi (by omega)
   have e:((data.drop k).takeWhile gY)[i]=(data.drop k)[i]:=Vy gY h _
   rw[e];exact this) (by
   rcases js (Y ((data.drop k).takeWhile gM)) (Y ((data.drop k).takeWhile gY)) with h|h
   right
   refine⟨h,?_⟩
   have:=l (by omega)
   have e:((data.drop k).takeWhile gY)[Y ((data.drop k).takeWhile gM)]=(data.drop k)[Y ((data.drop k).takeWhile gM)]:=Vy gY h _
   rw[e];exact this
   left;omega)]
  simp;omega
 have t:((data.drop k).takeWhile gY).dropWhile gM=((data.drop k).takeWhile gY).drop (Y ((data.drop k).takeWhile gM)):=by rw[afR,g]
 have u:Y ((data.drop k).takeWhile gM)<Y ((data.drop k).takeWhile gY)→∀v:k+Y ((data.drop k).takeWhile gM)<Y data,(((data.drop k).takeWhile gY).drop (Y ((data.drop k).takeWhile gM))).getD 0 0=data[k+Y ((data.drop k).takeWhile gM)]:=λh v=>by grind [Vy]
 have w:=q
 have x:=l
 generalize G:Y ((data.drop k).takeWhile gM)=m at *
 generalize H:Y ((data.drop k).takeWhile gY)=a at *
 refine⟨m,a,_,by omega,by omega,c,?_,o,rfl,by rw[n];congr 2;omega⟩
 unfold LA cr au aK ay bd
 rw[aF (by simp;omega),iY,r,aG]
 simp only[]
 rw[hT _ (by omega),aG,t]
 have y:aby a7 ((k:L)+ag ((data.drop k).takeWhile gY))=((k+a:U):L):=by grind [dv,cf]
 have A:aby a7 (((k+a:U):L)+1)=((k+a+1:U):L):=by grind [cf]
 have d:jw ((k+a+1:U):L) (ag data)=((min (k+a+1) (Y data):U):L):=by unfold jw;rw[dv];split<;>omega
 simp only[y,A,d,ite_self]
 by_cases h:m<a
 have B:k+m<Y data:=by omega
 have K:=u h B
 have C:((data.drop k).takeWhile gY).drop m≠[]:=by grind
 grind [gY,c8,sk,ag]
 grind [gY,sk,ag]
def RZ(data:M ao)(x:L×M ao×Q (M df)×L)(y:L×M (M ao×az)×M ao×L×Q (M df)):Prop:=∃(k a:U)(P:M df)(m:M (M ao×az)),k≤Y data+1∧a≤k∧a≤Y data∧Y P≤2*k∧KM m P∧x=((k:L),data,aT P,(a:L))∧y=(((min k (Y data):U):L),m,data,(a:L),aT P)
def SZ(data:M ao)(r:(Q (M df)×L×L)⊕M ao×Q (M df)×L)(q:(Q (M df)×L×L)⊕M ao×L×Q (M df)):Prop:=(∃a e:L,e≠0∧r=.inl (O,a,e)∧q=.inl (O,a,e))∨∃(a:U)(P:M df),a≤Y data∧Y P≤2*Y data+2∧r=.inr (data,aT P,(a:L))∧q=.inr (data,(a:L),aT P)
def avS(hT:∀s:M ao,s.length≤67108864→pI s [32,9]=J (s.dropWhile gM)){data:M ao}(hl:data.length≤16777216):∃r q,bR (EK data) (0,data,O,0)=J r∧bR (Sx data) (0,[],data,0,O)=J q∧SZ data r q:=by
 refine qI (RZ data) (SZ data) (λx=>data.length+2-x.1.toNat) (λx y h=>?_) ⟨0,0,[],[],by omega,by omega,by omega,by simp,avI,rfl,by simp[aT]⟩ (kQ (xf _ _) (kQ (show data.length+2≤67108866 by omega) (by decide)));obtain⟨k,a,P,m,hk,K,F,hP,t,rfl,rfl⟩:=h;unfold EK Sx aX cr au aK ah cz ay bd aH aA de;dsimp-proj only[aj];rcases js k data.length with u|u
 have N:min k data.length=k:=Nat.min_eq_left (by omega);have c1:decide ((k:L)<ag data)=W:=by simp;omega
 let⟨g,c,b,R,hL,S,T,V,X,Y⟩:=avR hT (data:=data) (by omega) (k:=k) (by omega);simp only[N,c1,bI,T,V,aG];have Z:(decide (((k+g:U):L)≥ag data)||decide ((0:L)≤((k+g:U):L))&&(bT (k+g) data.length&&(aZ (data.getD (k+g) 0)==10||decide ((0:L)≤((k+g:U):L))&&bT (k+g) data.length)))=W:=by grind [c8,Decidable.decide,ag]
 simp only[fq,Z,X,bI];have wL:aby a7 (((k+c:U):L)+1)=((k+c+1:U):L):=by grind [cf]
 cases b with
 |true=>left;simp only[bI,Y,aG,wL];exact⟨_,_,rfl,rfl,⟨k+c+1,a,P,m,by omega,by omega,F,by omega,t,rfl,rfl⟩,by simp;omega⟩|false=>
  have hd:(data.drop k).length=data.length-k:=by simp
  let⟨t1,t2,t3⟩:=ud kM (data.drop k);have v:=avF (data:=data) (by omega) (k:=k) (by omega) (data,aT P,(a:L));have w:=avE (s:=data.drop k) (by omega);generalize ((data.drop k).takeWhile kM).length=n at *;have cg:decide ((0:L)≤(k:L)∧(k:L)≤ag data∧ag data≤ag data)=W:=by simp;omega
  simp only[bL,ch,v,aG,cg,bI,iY,w];by_cases hn:n=0;right;subst hn;refine⟨_,_,?_,?_,.inl ⟨(k:L),2,by decide,rfl,rfl⟩⟩;simp;simp;by_cases h64:n≤64;have z:min 64 n=n:=by omega
  have m2:min 65 n=n:=by omega
  have w1:aby a7 ((k:L)+(n:L))=((k+n:U):L):=by grind [cf]
  have w2:aby a7 (((k+n:U):L)+1)=((k+n+1:U):L):=by grind [cf]
  have z1:(((k+n:U):L)==(k:L))=I:=by grind
  have z2:decide ((n:L)<1)=I:=by simp;omega
  have A:decide ((n:L)>64)=I:=by simp;omega
  simp only[z,m2,w1,w2,z1,z2,A,w6,fq];rcases js (k+n) data.length with p|p
  have j:decide (((k+n:U):L)≥ag data)=I:=by simp;omega
  have B:bT (k+n) data.length=W:=(c8 _ _).2 p;have C:decide ((0:L)≤((k+n:U):L))=W:=by simp;omega
  have c5:decide ((0:L)≤(k:L)∧(k:L)≤((k+n:U):L)∧((k+n:U):L)≤ag data)=W:=by simp;omega
  simp only[j,B,C,c5,w6,qX,bI,beq_self_eq_true];cases h61:(aZ (data.getD (k+n) 0) !=61)with
  |true=>right;exact⟨_,_,rfl,rfl,.inl ⟨(k:L),2,by decide,rfl,rfl⟩⟩|false=>
   have l:=t (bu (k:L) ((k+n:U):L) data);rw[avK (by omega),l];simp only[bL,ch,aG];cases hK:GZ P (bu (k:L) ((k+n:U):L) data)with|true=>right;exact⟨_,_,rfl,rfl,.inl ⟨(k:L),5,by decide,rfl,rfl⟩⟩|false=>let⟨e,he1,qe,D⟩:=avC (data:=data) (by omega) W (k:=k+n+1) (by omega);have c6:decide ((0:L)≤((k+n+1:U):L)∧((k+n+1:U):L)≤(e:L)∧(e:L)≤ag data)=W:=(by simp;omega);let⟨f,G,at',H,d1,d2,d3,d4,_⟩:=afN (raw:=bu ((k+n+1:U):L) (e:L) data) (by rw[gX];simp;omega);have we:=di (i:=e) (by omega);have o:jw ((e+1:U):L) (ag data)=((min (e+1) data.length:U):L):=(by unfold jw;rw[dv];split<;>omega);simp only[bL,ch,avD,D,aG,c6,bI,d1,d2];by_cases d:(H !=0)=W;right;simp only[d,bI];exact⟨_,_,rfl,rfl,.inl ⟨_,H,by simpa[bne]using d,rfl,rfl⟩⟩;left;rw[aV d,aV d,Vj (by omega) (by omega) (by omega) (by omega),Vk (by omega) (by omega) (by omega) (by omega)];simp only[aG,we,o];exact⟨_,_,rfl,rfl,⟨e+1,e,_,_,by omega,by omega,by omega,by simp;omega,avJ t _ _ _,rfl,rfl⟩,by simp;omega⟩
  have j:decide (((k+n:U):L)≥ag data)=W:=by simp;omega
  right;simp only[j,xg,bI];exact⟨_,_,rfl,rfl,.inl ⟨(k:L),2,by decide,rfl,rfl⟩⟩;right;have z:min 64 n=64:=by omega
  have m2:min 65 n=65:=by omega
  have p:k+64<data.length:=by omega
  have hb:=t2 64 (by omega) (by omega);rw[Cx]at hb;have e':data.getD (k+64) 0=data[k+64]:=by grind
  have E:(aZ data[k+64] !=61)=W:=by grind [kM]
  have B:bT (k+64) data.length=W:=(c8 _ _).2 p;have C:decide ((0:L)≤((k+64:U):L))=W:=by simp;omega
  have A:decide (((65:U):L)>64)=W:=by decide
  simp only[z,m2,fq,e',E,B,C,A,xg,zQ,qX,bI];exact⟨_,_,rfl,rfl,.inl ⟨(k:L),2,by decide,rfl,rfl⟩⟩
 right;have c1:decide ((k:L)<ag data)=I:=by simp;omega
 have j:decide (((min k data.length:U):L)<ag data)=I:=by simp;omega
 simp only[c1,j];exact⟨_,_,rfl,rfl,.inr ⟨a,P,F,by omega,rfl,rfl⟩⟩
def avT(hT:∀s:M ao,Y s≤67108864→pI s [32,9]=J (s.dropWhile gM)){data:M ao}(f:Y data≤65536):∃P at' e,Bs data=J (P,at',e)∧Fm data=J (P,at',e)∧Y (X P [])≤2*Y data+3:=by
 let⟨r,q,b,d,h⟩:=avS hT (data:=data) (by omega);unfold Bs Fm yS aX aK;have c:decide (ag data>65536)=I:=by simp;omega
 rw[b,c];simp only[bL,ch,aG,d];rcases h with⟨a,e,g,rfl,rfl⟩|⟨a,P,i,j,rfl,rfl⟩
 simp_all;unfold tF yT au al bv;simp only[aG,pz,cw];rw[aF (by simp;omega),aF (by simp;omega)];simp_all
def avU(s:M ao):pI s [32,9]=J (s.dropWhile gM):=by
 unfold pI;rw[aF (by decide)];have:(λc=>List.contains [32,9] c)=gM:=funext λc=>by grind [gM]
 rw[this]
def bF{α:Type}(Q:α→Prop)(o:Option α):Prop:=∀y,o=J y→Q y
def bF.nil{α:Type}{Q:α→Prop}:bF Q O:=λy h=>by cases h
theorem bF.ret{α:Type}{Q:α→Prop}{x:α}(h:Q x):bF Q (J x):=λy e=>by cases e;exact h
def bF.ite{α:Type}{Q:α→Prop}{c:Prop}[Decidable c]{a b:Option α}(h1:c→bF Q a)(h2:¬c→bF Q b):bF Q (if c then a else b):=by grind
theorem bF.call{α β:Type}{Q:β→Prop}{o:Option α}{f:α→Option β}(h:∀x,o=J x→bF Q (f x)):bF Q (aq o f):=by
 cases o with|none=>exact bF.nil|some x=>exact h x rfl
def bF.sum{ρ σ α:Type}{Q:α→Prop}{s:ρ⊕σ}{f:ρ→Option α}{g:σ→Option α}(h1:∀x,s=.inl x→bF Q (f x))(h2:∀x,s=.inr x→bF Q (g x)):bF Q (dc s f g):=by
 cases s with|inl x=>exact h1 x rfl|inr x=>exact h2 x rfl
def su{σ ρ:Type}(I:σ→Prop)(Q:ρ→Prop):σ⊕ρ→Prop|.inl y=>I y|.inr z=>Q z
def bF.iter{σ ρ:Type}{f:σ→Option (σ⊕ρ)}{I:σ→Prop}{Q:ρ→Prop}(step:∀x,I x→bF (su I Q) (f x)):∀(n:U)(x:σ),I x→bF Q (eD f n x)|0,x,_=>bF.nil|n+1,x,a=>by unfold eD;have:=step x a;split;rename_i y e;exact bF.iter step n y (this _ e);rename_i r e;exact bF.ret (this _ e);exact bF.nil
def bF.loop{σ ρ:Type}{f:σ→Option (σ⊕ρ)}{I:σ→Prop}{Q:ρ→Prop}(step:∀x,I x→bF (su I Q) (f x)){x:σ}(hx:I x):bF Q (bR f x):=bF.iter step fuel x hx
def JB(data:M ao)(b:M ao×Q (M df)×L):Prop:=b.1=data∧0≤b.2.2∧dO (X b.2.1 [])=data.take (G b.2.2)
def avV{data:M ao}{a b:L}(c:0≤a)(h1:a≤b):data.take (G a)++bu a b data=data.take (G b):=by
 obtain⟨a,rfl⟩:=nW c;obtain⟨b,rfl⟩:=nW (show 0≤b by omega);have h1:a≤b:=by omega
 show data.take a++bu (a:L) (b:L) data=data.take b;grind [gX,nQ]
def avW(P:M df)(x y:df):dO (P++[x,y])=dO P++x.2.2++y.2.2:=by simp[dO]
def JB.unit{data:M ao}{b:M ao×Q (M df)×L}(h:JB data b)(key:M ao)(a c:L):bF (JB data) (tG key a c b):=by let⟨h1,h2,h3⟩:=h;unfold tG au al jh;refine bF.ite (λd=>bF.ret ⟨h1,?_,?_⟩) λ_=>bF.nil;grind;simp_all [avW,avV]
def JB.fin{data:M ao}{b:M ao×Q (M df)×L}(h:JB data b):bF (λr=>dO (X r.1 [])=data) (tF b):=by let⟨h1,h2,h3⟩:=h;simp_all [tF,bF.ite,bF.ret,bF.nil,dO,bu,au,al,bv]
def Ns(z:Q (M df)×L×L):Prop:=z.2.2≠0
def Vz(data:M ao)(z:Q (M df)×L×L):Prop:=z.2.2=0→dO (X z.1 [])=data
def JB.start(data:M ao):JB data (data,O,0):=⟨rfl,Int.le_refl _,rfl⟩
def avX(data:M ao):bF (Vz data) (Br data):=by
 unfold Br aX;refine bF.call λr c=>bF.sum (λx a=>bF.ret λh=>?_) λx a=>bF.call λy hy=>bF.ret λ_=>?_
 all_goals
  have:=bF.loop (f:=yL data) (I:=λs=>JB data s.2.2) (Q:=su Ns (JB data)) (λs b=>by
   unfold yL iw cr au aK ah cz ay bd aH aA de bv jh;dsimp-proj only[aj]
   repeat' first
    |exact bF.nil|refine bF.ite (λ_=>?_) (λ_=>?_)|refine bF.call (λ_ _=>?_)
   all_goals refine bF.ret ?_
   all_goals first
    |exact b|exact JB.unit b _ _ _ _ (by assumption)|(show(2:L)≠0;decide)|(rename_i h;exact bne_iff_ne.1 h)) (JB.start data) r c
 subst a;exact cO h this;subst a;exact JB.fin this y hy
def avY(data:M ao):bF (Vz data) (Bs data):=by
 unfold Bs aX;refine bF.call λr c=>bF.sum (λx a=>bF.ret λh=>?_) λx a=>bF.call λy hy=>bF.ret λ_=>?_
 all_goals
  have:=bF.loop (f:=EK data) (I:=λs=>JB data s.2) (Q:=su Ns (JB data)) (λs b=>by
   unfold EK aX cr au aK ah cz ay bd aH aA de
   repeat' first
    |exact bF.nil|refine bF.ite (λ_=>?_) (λ_=>?_)|refine bF.call (λ_ _=>?_)
   all_goals refine bF.ret ?_
   all_goals first
    |exact b|exact JB.unit b _ _ _ _ (by assumption)|(show(2:L)≠0;decide)|(show(5:L)≠0;decide)|(rename_i h;exact bne_iff_ne.1 h)) (JB.start data) r c
 subst a;exact cO h this;subst a;exact JB.fin this y hy
def avZ(data:M ao):bF (Vz data) (Bt data):=by
 unfold Bt aX;refine bF.call λr e=>bF.sum (λx a=>bF.ret λh=>?_) λx a=>bF.call λy hy=>bF.ret λ_=>?_
 all_goals
  have:=bF.loop (f:=EM data) (I:=λs=>JB data s.2.2.2.2) (Q:=su Ns (JB data)) (λs d=>by
   unfold EM aX aK ah ay aH aA;dsimp-proj only[aj]
   refine bF.ite (λ_=>bF.call λg h1=>?_) λ_=>bF.ret d
   have c:=bF.loop (f:=EL data s) (I:=λs=>JB data s.2.2.2.2) (Q:=su Ns (λs=>JB data s.2.2.2.2)) (λi b=>by
    unfold EL cr au ah cz ay bd aH aA de;dsimp-proj only[aj]
    repeat' first
     |exact bF.nil|refine bF.ite (λ_=>?_) (λ_=>?_)|refine bF.call (λ_ _=>?_)
    all_goals refine bF.ret ?_
    all_goals first
     |exact b|exact JB.unit b _ _ _ _ (by assumption)|(show(2:L)≠0;decide)|(rename_i h;exact bne_iff_ne.1 h)) (x:=(s.1,s.2.2.1,0,0,s.2.2.2.2)) d g h1
   refine bF.sum (λx a=>bF.ret ?_) λx a=>?_
   subst a;exact c
   ·subst a;have c:JB data x.2.2.2.2:=c;(repeat' refine bF.ite (λ_=>?_) (λ_=>?_));all_goals refine bF.ret ?_
    all_goals first
     |exact c|(show(2:L)≠0;decide)|(show(5:L)≠0;decide)|(show(6:L)≠0;decide)) (JB.start data) r e
 subst a;exact cO h this;subst a;exact JB.fin this y hy
def wL(out:M aN)(t:M ao):M aN:=if t=[]then out else out++[(1,t,0)]
def VA(out:M aN):Prop:=∀y,out.getLast?=J y→y.1≠1
def av0{out:M aN}(h:VA out)(t:M ao){x:aN}(hx:x.1=1):iM (wL out t) x=wL out (t++x.2.1):=by
 unfold wL;by_cases a:x.2.1=[];unfold iM;simp[hx,a];rw[aV (show ¬t++x.2.1=[] by simp[a])];by_cases b:t=[];subst b;unfold iM;simp only[hx,a,sE,bL,ch,bI,List.nil_append];cases c:out.getLast? with|none=>rfl|some y=>simp[h y c]
 simp_all [iM]
def afS{f:M aN}{i:U}(h:i<Y f):dq (f.take (i+1))=iM (dq (f.take i)) f[i]:=by rw[iP h,qK]
theorem sw:∀(f out:M aN),bm (f.foldl iM out)≤bm out+bm f|[],out=>by simp[bm]|x::f,out=>by have h1:=sw f (iM out x);grind [ae9,bm]
theorem zr(f:M aN)(i:U):bm (f.take i)≤bm f:=by grind [jl,nQ]
def av1(f:M aN)(i:U):bm (dq (f.take i))≤bm f:=by grind [sw,zr,bm,dq]
def av2{o:Q (M aN)}(l:bm (X o [])≤536870912){i:U}(hi:i≤Y (X o []))(d:VA (dq ((X o []).take i))):∃r,bR (LX o) ((i:L),O)=J r∧∃(j:U)(t:M ao),r.1=(j:L)∧X r.2 []=fN t∧i≤j∧j≤Y (X o [])∧dq ((X o []).take j)=wL (dq ((X o []).take i)) t∧(∀h:j<Y (X o []),(X o [])[j].1≠1):=by
 have m:=eT (X o []);refine gs (f:=LX o) (λs=>∃(j:U)(t:M ao),s.1=(j:L)∧X s.2 []=fN t∧i≤j∧j≤Y (X o [])∧dq ((X o []).take j)=wL (dq ((X o []).take i)) t∧Y t≤bm ((X o []).take j)) (λs=>Y (X o [])-G s.1) (λr=>∃(j:U)(t:M ao),r.1=(j:L)∧X r.2 []=fN t∧i≤j∧j≤Y (X o [])∧dq ((X o []).take j)=wL (dq ((X o []).take i)) t∧(∀h:j<Y (X o []),(X o [])[j].1≠1)) (λs h=>?_) _ ⟨i,[],rfl,rfl,dR _,hi,by simp[wL],by simp⟩ (kQ (xf _ _) (cM (cA (by omega))));let⟨n,a⟩:=s;obtain⟨j,t,rfl,c,h1,h2,h3,p⟩:=h;simp only[]at c;unfold LX aM au ah al ay aH aA;dsimp-proj only[aj];simp only[];rcases js j (Y (X o [])) with b|b
 have c1:decide ((j:L)<ag (X o []))=W:=by simp;omega
 have e:decide (0≤(j:L)∧(j:L)<ag (X o []))=W:=by simp;omega
 simp only[c1,e,cW b,c];by_cases hk:(X o [])[j].1=1;have g:=afS b;rw[h3,av0 d t hk]at g;have q:bm ((X o []).take (j+1))=bm ((X o []).take j)+(Y (X o [])[j].2.1+1):=by rw[iP b,jl];simp[bm]
 have u:=zr (X o []) (j+1);have k:X (jU a (fN (X o [])[j].2.1)) []=fN (t++(X o [])[j].2.1):=by
  have:X (jU a (fN (X o [])[j].2.1)) []=X a []++fN (X o [])[j].2.1:=by cases a<;>cases fN (X o [])[j].2.1<;>simp[jU,eo]
  rw[this,c];simp[fN]
 rw[aF (by simp),aF (by simp[hk]),aF (by simp[Ng];omega)];grind [cf];grind;grind
theorem afT{o:Q (M aN)}(k:bm (X o [])≤536870912):FL o=J (aT (dq (X o []))):=by
 have v:=eT (X o []);have key:∃r,bR (LY o) (O,0)=J r∧r=aT (dq (X o [])):=by
  refine gs (f:=LY o) (λs=>∃i:U,s=(aT (dq ((X o []).take i)),(i:L))∧i≤Y (X o [])∧(∀h:i<Y (X o []),(X o [])[i].1=1→VA (dq ((X o []).take i)))) (λs=>Y (X o [])-G s.2) (λr=>r=aT (dq (X o []))) (λs h=>?_) _ ⟨0,rfl,by omega,λ_ _ y hy=>by simp[dq]at hy⟩ (kQ (xf _ _) (cM (cA (by omega))));obtain⟨i,rfl,h1,h2⟩:=h;unfold LY bJ aX aM au aK ah al ay aH aA bv;dsimp-proj only[aj];simp only[];rcases js i (Y (X o [])) with hi|hi
  rw[nC hi,cW hi];have hn:=av1 (X o []) i;have l:=eT (dq ((X o []).take i));by_cases hk:(X o [])[i].1=1;have a:((X o [])[i].1 !=1)=I:=by simp[hk]
  let⟨r,e,j,t,d,g,w,m,n,p⟩:=av2 k h1 (h2 hi hk);let⟨x,z⟩:=r;simp only[]at d g;subst d;have q:i<j:=by grind
  rw[a,aV (by simp),e,aG];simp only[g,cw,ofBytes,Ng,dv];rw[aF (by simp;omega)];have b:(if decide ((Y t:L)>0)=W then J (dq ((X o []).take i)++[(1,t,0)])else aT (dq ((X o []).take i)))=aT (dq ((X o []).take j)):=by
   rw[n];unfold wL;cases t with|nil=>simp|cons c t=>simp[jM]
  refine⟨⟨j,by rw[b],m,λh u=>cO u (p h)⟩,by simp only[];omega⟩;have a:((X o [])[i].1 !=1)=W:=by simp[bne,hk]
  have A:=afS hi;have B:iM (dq ((X o []).take i)) (X o [])[i]=dq ((X o []).take i)++[(X o [])[i]]:=by grind [iM]
  rw[a,aF rfl,aF (by simp;omega)];refine⟨⟨i+1,?_,hi,λh _ y hy=>?_⟩,?_⟩;grind [cw,jM,cf];grind;grind [cf];rw[show i=Y (X o []) by omega,gb,ur]
 simp_all [FL,aX,au]
def av3(n:U)(hn:n≤1073741824):∃o,LZ (n:L)=J o∧X o []=[]:=by
 have w:aby a7 ((n:L)-0)=(n:L):=by grind [cf]
 have a:∀l:M aN,bu 0 0 l=[]:=λl=>rfl;unfold LZ;simp only[w];rw[aF (by simp)];have b:∀q:Q (M aN),V (gj (bu 0 0) q)=V q:=λq=>by cases q<;>rfl
 rw[aF (by simp only[b];simp;omega),aF (beq_self_eq_true _),aF (beq_self_eq_true _)];refine⟨_,rfl,?_⟩;split;cases eo (ep (G ((n:L))) ((0:L),([]:M ao),(0:L)))<;>simp[a];rfl
theorem av4{a b:Q (M aN)}(c:Y (X a [])≤268435456)(d:Y (X b [])≤268435456):∃o,L0 (J [a,b])=J o∧X o []=X a []++X b []:=by
 have e:aby a7 ((0:L)+1)=1:=rfl;have g:aby a7 ((1:L)+1)=2:=rfl;have h:ag [a,b]=2:=rfl;have j:H ([a,b]:M (Q (M aN))) (G ((0:L))) O=a:=rfl;have k:H ([a,b]:M (Q (M aN))) (G ((1:L))) O=b:=rfl;have v1:aby a7 (0+(Y (X a []):L))=(Y (X a []):L):=by grind [cf]
 have m:aby a7 ((Y (X a []):L)+(Y (X b []):L))=((Y (X a [])+Y (X b []):U):L):=by grind [cf]
 have n:bR (FM (J [a,b])) (0,0)=J ((Y (X a [])+Y (X b []):U):L):=by
  refine eS (f:=FM (J [a,b])) 2 (λi=>match i with|0=>(0,0)|1=>((Y (X a []):L),1)|_=>(((Y (X a [])+Y (X b []):U):L),2)) (λi hi=>?_) ?_ (by decide)
  match i,hi with|0,_=>simp_all [FM,aM,au,aK,al,ay,bd,aH,aA]|1,_=>grind [FM,dv]
  rfl
 let⟨o,q,r⟩:=av3 (Y (X a [])+Y (X b [])) (by omega);have s:∀(p:Q (M aN))(l:M aN),X (jU p l) []=X p []++l:=λp l=>by cases p<;>cases l<;>simp[jU,eo]
 have t:bR (FN (J [a,b])) (o,0)=J (jU (jU o (X a [])) (X b [])):=by
  refine eS (f:=FN (J [a,b])) 2 (λi=>match i with|0=>(o,0)|1=>(jU o (X a []),1)|_=>(jU (jU o (X a [])) (X b []),2)) (λi hi=>?_) ?_ (by decide)
  match i,hi with|0,_=>grind [FN]|1,_=>grind [FN]
  rfl
 grind [L0,aG]
theorem afU{a b:Q (M aN)}(c:bm (X a [])+bm (X b [])≤268435456):BQ a b=J (aT (dq (X a []++X b []))):=by grind [eT,av4,BQ,aG,afT,jl]
def EF(s:M ao)(x:aN)(n:L):Prop:=n=0∨(0<n∧n≤Y s∧(x.1=0∨(Y x.2.1:L)≤n∧(x.1=1→Y x.2.1=1)))
theorem afV(s:M ao):EF s (jY s).1 ((jY s).2:L):=by
 unfold jY;rcases lc s 125 with⟨h,_⟩|⟨k,h,_,hk,_⟩
 rw[h];exact .inl rfl;rw[h];show EF s (match fW k with|.ofNat k=>if iG ((s.take k).drop 1)=W then((5,(s.take k).drop 1,0),k+1)else((0,[],0),0)|_=>((0,[],0),0):aN×U).1 _
 simp only[];split;refine .inr ⟨by simp only[];omega,by simp only[];omega,.inr ⟨?_,λh=>by cases h⟩⟩;simp;omega;exact .inl rfl
def av5{t s:M ao}(h:ac3 t s=W):Y t≤Y s:=(Od.1 h).length_le
def av6{s:M ao}(e:s≠[]):EF s (qO s).1 (qO s).2:=by
 obtain⟨c,r,rfl⟩:∃c r,s=c::r:=by cases s with|nil=>exact cO rfl e|cons c r=>exact⟨c,r,rfl⟩
 simp only[qO]
 split
 ·cases a:tZ (c::r)with
  |none=>exact .inl rfl
  |some z=>
   unfold tZ at a
   split at a
   ·cases a
   ·split at a
    ·cases a
     rename_i h1 h2
     rcases lc (c::r) 62 with⟨h,_⟩|⟨k,h,_,hk,_⟩
     ·rw[h]at h1;omega
     ·rw[h]
      simp only[fL]
      have f:=B8 (bu 1 (k:L) (c::r))
      have g:Y (bu 1 (k:L) (c::r))≤k:=by unfold bu;simp;omega
      have b:(ie (bu 1 (k:L) (c::r))).1≠1:=by
       grind [ie]
      exact .inr ⟨by omega,by simp at hk ⊢;omega,.inr ⟨by grind,λh=>cO h b⟩⟩
    ·cases a
 ·split
  ·split
   ·rename_i d n hd
    unfold pM at hd
    repeat' split at hd
    all_goals first
     |cases hd
     |skip
    all_goals
     rename_i h
     have:=av5 h
     exact .inr ⟨by decide,by simp at this ⊢;omega,.inr ⟨by simp,λ_=>rfl⟩⟩
   ·exact .inl rfl
  ·split
   ·exact afV _
   ·exact .inr ⟨by simp,by simp;omega,.inr ⟨by simp,λ_=>rfl⟩⟩
def av7{s:M ao}(a:s≠[]):EF s (lM s).1 ((lM s).2:L):=by
 obtain⟨c,r,rfl⟩:∃c r,s=c::r:=by cases s with|nil=>exact cO rfl a|cons c r=>exact⟨c,r,rfl⟩
 simp only[lM];have h2:∀b:ao,r.head?=J b→EF (c::r) (1,[b],0) 2:=λb h=>by
  cases r with
  |nil=>cases h
  |cons d r=>exact .inr ⟨by decide,by simp;omega,.inr ⟨by simp,λ_=>rfl⟩⟩
 split;split;grind;exact .inl rfl;split;grind [afV];exact .inr ⟨by simp,by simp;omega,.inr ⟨by simp,λ_=>rfl⟩⟩
def fJ(n:L):Prop:=n=1∨n=2∨n=3
theorem av8{fmt:L}(d:fJ fmt){raw:M ao}{k:U}(hk:k<Y raw)(e:Y raw≤67108864):∃x n,rW fmt (raw.drop k)=J (x,n)∧EF (raw.drop k) x n:=by
 have a:raw.drop k≠[]:=by simp_all
 have b:Y (raw.drop k)≤67108864:=by simp;omega
 have c:Y (raw.drop k)=Y raw-k:=by simp
 unfold rW ah;rcases d with rfl|rfl|rfl
 rw[aF (by decide),afD a b];exact⟨_,_,rfl,av6 a⟩;rw[aV (by decide),aF (by decide)];rcases afL hk e O O O 0 0 with⟨h,_⟩|⟨n,h1,h2,h,_⟩|⟨t,n,h1,h2,h,_⟩|⟨f,n,h1,h2,h,_⟩
 rw[h];exact⟨_,_,rfl,.inl rfl⟩;rw[h];exact⟨_,_,rfl,.inr ⟨by omega,by omega,.inl rfl⟩⟩;rw[h];exact⟨_,_,rfl,.inr ⟨by omega,by omega,.inr ⟨by simp;omega,λ_=>rfl⟩⟩⟩;rw[h];exact⟨_,_,rfl,.inr ⟨by omega,by omega,.inr ⟨by simp only[];omega,λh=>by cases h⟩⟩⟩;rw[aV (by decide),aV (by decide),afb a (by omega)];exact⟨_,_,rfl,av7 a⟩
theorem av9(out:M aN)(x:aN):cx (iM out x)=cx out+wid x:=by
 have a:∀y:aN,cx [y]=wid y:=λy=>by simp[cx]
 unfold iM;split;rw[zo,a];rename_i b;have b:x.1=1:=by simpa using b
 split;grind [wid];split;rename_i y hy;split;rename_i h1;have h1:y.1=1:=by simpa using h1
 have e:cx out=cx out.dropLast+wid y:=by
  conv=>lhs;rw[ae8 hy]
  rw[zo,a]
 grind [zo,wid];rw[zo,a];simp[wid,b];rw[zo,a];simp[wid,b]
theorem awa(f:M aN):cx (dq f)=cx f:=by
 have:∀(f out:M aN),cx (f.foldl iM out)=cx out+cx f:=by
  intro f;induction f with
  |nil=>intro out;simp[cx]
  |cons x f a=>grind [av9,cx]
 unfold dq;rw[this f []];simp[cx]
def G1(m:U)(f:M aN)(a:M L):Prop:=∃cs:M U,a=cs.map fW∧Y cs=cx f∧cs.Pairwise (·≤ ·)∧∀c∈cs,c≤m
def G1.snoc{m m':U}{f g:M aN}{a:M L}(h:G1 m f a)(hm:m≤m')(b:cx g=cx f+1):G1 m' g (a++[(m:L)]):=by let⟨cs,h1,h2,h3,d⟩:=h;refine⟨cs++[m],by rw[h1];simp,by simp[h2,b],?_,λc e=>?_⟩;grind;grind
abbrev RSt:=Q (M aN)×Q (M aN)×Q (M L)×L×L×L
def ID(raw:M ao)(s:RSt):Prop:=∃at' a:U,s.2.2.2.1=(at':L)∧s.2.2.2.2.1=(a:L)∧a≤at'∧at'≤Y raw∧bm (X s.1 [])≤2*at'∧G1 a (X s.1 []) (X s.2.2.1 [])
def ID.step{raw:M ao}(p:Y raw≤67108864){s:RSt}(h:ID raw s){x:aN}{n:L}(hx:EF (raw.drop (G s.2.2.2.1)) x n)(hn:n≠0)(hk:x.1≠0){y:aN}(e:y.1=x.1)(f:y.2.1=x.2.1){r:Q (M aN)}(b:lK s.1 (J [y])=J r)(o:Q (M aN))(l:L):ID raw (r,o,J (X s.2.2.1 []++[s.2.2.2.2.1]),aby a7 (s.2.2.2.1+n),aby a7 (s.2.2.2.1+n),l):=by
 let⟨at',g,c,i,h1,h2,h3,j⟩:=h;rw[c]at hx;rcases hx with hx|⟨q,d,a⟩
 exact cO hx hn;rcases a with a|⟨a,t⟩
 exact cO a hk;obtain⟨n,rfl⟩:=nW (show 0≤n by omega);have d:n≤Y raw-at':=by simpa using d
 have a:Y x.2.1≤n:=by exact Int.ofNat_le.1 a
 have u:bm [y]=Y y.2.1+1:=by simp[bm]
 rw[mR (by grind)]at b;cases b;have k:aby a7 ((at':L)+(n:L))=((at'+n:U):L):=by grind [cf]
 rw[c,i,k];refine⟨at'+n,at'+n,rfl,rfl,dR _,by omega,?_,?_⟩;grind [cw,sw,jl,dq];refine j.snoc (m:=g) (m':=at'+n) (by omega) ?_;grind [cw,awa,cx,wid]
def Nt(raw:M ao)(r:Q (M aN)×Q (M L)×L×L):Prop:=r.2.2.2=0→bm (X r.1 [])≤2*Y raw∧∃cs:M U,X r.2.1 []=cs.map fW∧Y cs=cx (X r.1 [])+1∧cs.Pairwise (·≤ ·)∧∀c∈cs,c≤Y raw
set_option maxHeartbeats 1000000 in
def awb{fmt:L}(C:fJ fmt){raw:M ao}(t:Y raw≤67108864):bF (Nt raw) (gW fmt raw):=by
 unfold gW aX au aK al bv;refine bF.call λr u=>?_;have:=bF.loop (f:=nF fmt raw) (I:=ID raw) (Q:=su (λz:Option (M aN)×Option (M L)×L×L=>z.2.2.2≠0) λz:Option (M aN)×Option (M aN)×Option (M L)×L=>∃a:U,z.2.2.2=(a:L)∧a≤Y raw∧bm (X z.1 [])≤2*Y raw∧G1 a (X z.1 []) (X z.2.2.1 [])) (λs i=>by
  unfold nF cJ cr au aK ah al ay bd aH aA bv;dsimp-proj only[aj]
  refine bF.ite (λb=>bF.ite (λ_=>bF.call λd h1=>?_) λ_=>bF.nil) λ_=>bF.ret ?_
  ·let⟨at',a,e,j,h2,h3,k,l⟩:=id i;have g:EF (raw.drop s.2.2.2.1.toNat) d.1 d.2:=(by rw[e]at h1 b;have b:at'<Y raw:=(by simpa using b);grind [av8,iY]);refine bF.ite (λ_=>bF.ret (show(2:L)≠0 by decide)) λhn=>?_;have hn:d.2≠0:=(by simpa using hn);refine bF.ite (λD=>bF.ret ?_) λhk=>?_;rcases g with g|⟨E,p,F⟩
   exact cO g hn;rw[e]at p;let⟨n,m⟩:=nW (show 0≤d.2 by omega);have p:n≤Y raw-at':=(by grind);have v:aby a7 ((at':L)+(n:L))=((at'+n:U):L):=(by grind [cf]);exact⟨at'+n,a,by rw[e,m,v],j,by omega,by omega,uy k (by omega),l⟩
   ·have hk:d.1.1≠0:=by simpa using hk
    repeat' first
     |exact bF.nil|refine bF.ite (λ_=>?_) (λ_=>?_)|refine bF.call (λ_ _=>?_)
    all_goals refine bF.ret ?_
    all_goals first
     |(show(7:L)≠0;decide)|(show(3:L)≠0;decide)|(refine ID.step t i g hn hk ?_ ?_ (by assumption) _ _<;>rfl)
  let⟨at',a,e,j,h2,h3,k,l⟩:=i
  exact⟨a,j,by omega,uy k (by omega),l⟩) ⟨0,0,rfl,rfl,dR _,fV _,dR _,[],rfl,rfl,ayX,λc q=>by cases q⟩ r u
 refine bF.sum (λx o=>bF.ret λh=>?_) λx o=>bF.ite (λ_=>bF.ret λh=>?_) λ_=>bF.ite (λ_=>bF.ret λ_=>?_) λ_=>bF.nil;subst o;exact cO h this;cases h;subst o;let⟨a,w,G,y,cs,A,B,H,K⟩:=this;refine⟨y,cs++[a],?_,by simp[B],?_,λc q=>?_⟩;rw[w,A];simp;grind;grind
def awc{raw:M ao}(d:Y raw≤67108864):∃f a at' e,gW 3 raw=J (f,a,at',e)∧yX raw=J (f,at',e)∧FC raw=J (a,e):=by
 let⟨r,q,g,i,h⟩:=afg d;unfold gW yX FC Fo aX au aK ah al bv;rw[g,i];rcases h with⟨k,e,hk,j,rfl,rfl⟩|⟨items,text,s,cs,rfl,l,rfl,t,c,m⟩
 refine⟨O,O,k,e,rfl,?_,?_⟩<;>simp[j];have n:=eT items;have o:=wI items text;let⟨b,p⟩:=aff (cs:=aT cs) l (by omega:items.length≤1073741824);refine⟨aT (dB items text),J (cs++[(Y raw:L)]),0,0,?_,?_,?_⟩;simp;omega;simp[p];unfold SI au al bv;simp;rw[aF (by omega)];rfl
def awd{raw:M ao}(i:Y raw≤67108864):∃f a at' e,gW 2 raw=J (f,a,at',e)∧yW raw=J (f,at',e)∧FB raw=J (a,e):=by
 let⟨r,q,j,l,h⟩:=afM i;unfold gW yW FB Fl aX au aK ah al bv;rw[j,l];rcases h with⟨k,e,hk,m,rfl,rfl⟩|⟨c,items,text,n,cs,o,rfl,p,rfl,v,g,s⟩
 refine⟨O,O,k,e,rfl,?_,?_⟩<;>simp[m];have t:=eT items;have u:=wI items text;have d:∃b,BK (aT items,n,aT cs,(c:L),(c:L))=J (aT (dB items text),b):=by unfold BK au;rw[Vl,GF p (by omega)];simp_all
 let⟨b,d⟩:=d;refine⟨aT (dB items text),J (cs++[(c:L)]),0,0,?_,?_,?_⟩;simp;omega;simp[d];unfold SH au al bv;simp;rw[aF (by omega)];rfl
theorem VB{fmt:L}(d:fJ fmt){raw:M ao}(b:Y raw≤67108864):∃f a at' e,gW fmt raw=J (f,a,at',e)∧Fq fmt raw=J (f,e)∧BO fmt raw=J (a,e)∧Nt raw (f,a,at',e):=by
 have c:=awb d b;unfold Fq BO ah;rcases d with rfl|rfl|rfl
 let⟨f,a,at',e,h1,h2,h3,_⟩:=Nn b;refine⟨f,a,at',e,h1,?_,?_,c _ h1⟩;simp_all;simp_all;let⟨f,a,at',e,h1,h2,h3⟩:=awd b;refine⟨f,a,at',e,h1,?_,?_,c _ h1⟩;simp_all;simp_all;let⟨f,a,at',e,h1,h2,h3⟩:=awc b;refine⟨f,a,at',e,h1,?_,?_,c _ h1⟩;simp_all;simp_all
def awe{fmt:L}(c:fJ fmt)(data:M ao):∃P at' e,K7 fmt data=J (P,at',e)∧LJ fmt data=J (P,at',e)∧(e=0→dO (X P [])=data∧Y (X P [])≤131075∧Y data≤65536):=by
 unfold K7 LJ aK ah;by_cases a:Y data≤65536;rw[aV (by simp;omega)];rcases c with rfl|rfl|rfl
 let⟨P,at',e,h1,h2,h3⟩:=avB a;rw[aF (by decide),aF (by decide),h1,h2];exact⟨P,at',e,rfl,rfl,λb=>⟨avX data _ h1 b,by omega,a⟩⟩;let⟨P,at',e,h1,h2,h3⟩:=avT (λs _=>avU s) a;rw[aV (by decide),aF (by decide),aV (by decide),aF (by decide),h1,h2];exact⟨P,at',e,rfl,rfl,λb=>⟨avY data _ h1 b,by omega,a⟩⟩;let⟨P,at',e,h1,h2,h3⟩:=auQ a;rw[aV (by decide),aV (by decide),aV (by decide),aV (by decide),h1,h2];exact⟨P,at',e,rfl,rfl,λb=>⟨avZ data _ h1 b,by omega,a⟩⟩;rw[aF (by simp;omega)];refine⟨O,0,3,rfl,?_,λh=>by cases h⟩;rcases c with rfl|rfl|rfl
 rw[aF (by decide)];unfold Fh aX aK;rw[aF (by simp;omega)];rfl;rw[aV (by decide),aF (by decide)];unfold Fm aX aK;rw[aF (by simp;omega)];rfl;rw[aV (by decide),aV (by decide)];unfold Fp aX aK;rw[aF (by simp;omega)];rfl
abbrev Dc:=L×Q (M df)
theorem uf(n:L):(n==(1:L)||(n==(2:L)||n==(3:L)))=W↔fJ n:=by simp[fJ]
def awf(data:M ao)(d:Dc):Prop:=dO (X d.2 [])=data∧Y (X d.2 [])≤131075∧Y data≤65536
def afX(fmt:L)(data:M ao):∃d at' e,qB fmt data=J (d,at',e)∧LK fmt data=J (d,at',e)∧(e=0→d.1=fmt∧fJ fmt∧awf data d):=by
 unfold qB LK rX yR ah;by_cases a:fJ fmt;let⟨P,at',e,h1,h2,h3⟩:=awe a data;rw[(uf fmt).2 a];simp only[aG,kF,bL,ch,h1,h2];by_cases b:e=0;subst b;exact⟨(fmt,P),0,0,rfl,rfl,λ_=>⟨rfl,a,h3 rfl⟩⟩;rw[aF (by simpa using b)];grind;have:(fmt==(1:L)||(fmt==(2:L)||fmt==(3:L)))=I:=by grind [uf]
 rw[this];exact⟨(0,O),0,1,rfl,rfl,λh=>by cases h⟩
def afY{d:Dc}(h1:Y (X d.2 [])≤1073741824)(h2:Y (dO (X d.2 []))≤1073741824):∃e,tJ d=J e∧yY d=J e∧(e=0→fJ d.1∧Y (X d.2 [])≤131075∧Y (dO (X d.2 []))≤65536):=by
 unfold tJ yY rX yR ah;by_cases a:fJ d.1;rw[(uf d.1).2 a];let⟨x,at',e,b,c,f⟩:=afX d.1 (dO (X d.2 []));simp only[aG,kF,bL,ch,GH h1 h2,B6 h1 h2,b,c];by_cases g:e=0;subst g;let⟨h,_,i,j,k⟩:=f rfl;rw[aV (by decide),aV (by decide)];unfold Sk ah;rw[auS (by omega),auR (by omega)];by_cases l:X x.2 []=X d.2 [];simp_all;simp_all;simp_all;have:(d.1==(1:L)||(d.1==(2:L)||d.1==(3:L)))=I:=by grind [uf]
 simp_all
def gZ(P:M df)(k:U):M U:=(iz k).filter λi=>(H P i (I,[],[])).1
def afZ(P:M df)(k:U):gZ P (k+1)=gZ P k++if(H P k (I,[],[])).1=W then[k]else[]:=by unfold gZ;rw[xc,List.filter_append];simp[List.filter_cons]
def G2(P:M df)(k:U):Y (gZ P k)≤k:=by grind [gZ]
theorem Ca{d:Dc}(h:Y (X d.2 [])≤1073741824):nH d=J (aT ((gZ (X d.2 []) (Y (X d.2 []))).map fW)):=by
 unfold nH aX au;have:bR (Fs d) (O,0)=J (aT ((gZ (X d.2 []) (Y (X d.2 []))).map fW)):=by refine eS (f:=Fs d) (Y (X d.2 [])) (λi=>(aT ((gZ (X d.2 []) i).map fW),(i:L))) (λi hi=>?_) ?_ (cM (cA (by omega)));unfold Fs aM au aK ah al ay aH aA bv;have a:=di (i:=i) (by omega);have b:=G2 (X d.2 []) i;rw[dQ hi,cW hi,aF (by simp;omega),a,afZ,jP,eM hi];grind [cw,jM];unfold Fs aM au aK ah al ay aH aA bv;rw[gb]
 rw[this];simp
def VC(d:Dc):EE d=nH d:=rfl
def Cb{P:M df}{q:df}(h:q∈P):Y q.2.2≤Y (dO P):=by obtain⟨a,b,rfl⟩:=List.append_of_mem h;simp[dO];omega
def G3{d:Dc}(h:∀q∈X d.2 [],Y q.2.2≤67108864)(part:L):∃f e,mf d part=J (f,e)∧yZ d part=J (f,e)∧(e=0→fJ d.1∧∃k:U,part=(k:L)∧∃q,(X d.2 [])[k]?=J q∧q.1=W∧∃a at',gW d.1 q.2.2=J (f,a,at',0)∧BO d.1 q.2.2=J (a,0)∧Nt q.2.2 (f,a,at',0)):=by
 unfold mf yZ rX yR cJ aM au ah al;by_cases b:fJ d.1;rw[(uf d.1).2 b];simp only[aG,kF,bL,ch];by_cases hp:part<0∨part≥Y (X d.2 []);rw[aF (by simp;omega),aF (by simp;omega),aF (by simp;omega),aF (by simp;omega)];grind;obtain⟨k,rfl⟩:=nW (show 0≤part by omega);have hk:k<Y (X d.2 []):=by omega
 have c1:decide ((k:L)<0)=I:=by simp
 have c:decide ((k:L)≥ag (X d.2 []))=I:=by simp;omega
 have g:decide ((0:L)≤(k:L)∧(k:L)<ag (X d.2 []))=W:=by simp;omega
 have i:=h _ (eF hk);grind [VB,aG];have:(d.1==(1:L)||(d.1==(2:L)||d.1==(3:L)))=I:=by grind [uf]
 rw[this];exact⟨O,1,rfl,rfl,λh=>by cases h⟩
def fk(x:aN):az:=x.1==2||(x.1==3||x.1==4)
def oY(x y:aN):az:= !(fk y&&(y.2.2==x.2.2))||(x.1==3&&(y.1==2&&decide (ic y.2.1=x.2.1)))
def mS(a:M aN)(x:aN):L:=if x.1=1 then(if x.2.1=[]∨x.2.2≠0∨a.getLast?.map (·.1)=J 1 then 1 else 0) else if x.1=5 then(if iG x.2.1=W∧x.2.2=0 then 0 else 1) else if x.1=2∨x.1=4 then(if oX x.2.1=W∧1≤x.2.2∧x.2.2≤999 then(if a.all (oY x)then 0 else 7)else 1) else if x.1=3 then(if iG x.2.1=W∧1≤x.2.2∧x.2.2≤999 then(if a.all (oY x)then 0 else 7)else 1) else 1
theorem dA{α:Type}{xs:M α}{k:U}(h:k<Y xs):decide (0≤(k:L)∧(k:L)<ag xs)=W:=by simp;omega
def wM{f:M aN}{i:U}(h:i<Y f):Y f[i].2.1+1≤bm f:=by
 have e:bm f=bm (f.take i)+bm (f[i]::f.drop (i+1)):=by rw[←jl,←xe h,nQ]
 grind [bm]
def awg{o:Q (M aN)}(c:bm (X o [])≤1073741824)(x:aN):LU o x=J ((X o []).all (oY x)):=by
 have d:=eT (X o []);have a:∀i(h:i<Y (X o [])),Y (X o [])[i].2.1≤1073741824:=λi h=>by have:=wM h;omega
 have b:=wF (f:=FD o x) (X o []) (oY x) I 0 (λi h _=>by have hn:=au9 (a i h);unfold FD oY qF bJ aM ah al ay aH aA;dsimp-proj only[aj];rw[nC h,cW h,eh (by omega),hn];grind [aq,fk]) (by unfold FD bJ aM ah al ay aH aA;dsimp-proj only[aj];rw[gb]) (Y (X o [])) 0 fuel (by omega) (cM (cA (by omega))) (by omega);unfold LU aX;rw[show bR (FD o x) 0=_ from b,aG,Hz];cases(X o []).all (oY x)<;>rfl
def awh{o:Q (M aN)}(c:bm (X o [])≤1073741824)(x:aN):bR (yQ o x) 0=J (if(X o []).all (oY x)then .inr ()else .inl 7):=by
 have d:=eT (X o []);have a:∀i(h:i<Y (X o [])),Y (X o [])[i].2.1≤1073741824:=λi h=>by have:=wM h;omega
 have b:=wF (f:=yQ o x) (X o []) (oY x) 7 0 (λi h _=>by have hn:=wK (a i h);unfold yQ oY pF bJ aM ah al ay aH aA;dsimp-proj only[aj];rw[nC h,cW h,eh (by omega),hn];grind [aq,fk]) (by unfold yQ bJ aM ah al ay aH aA;dsimp-proj only[aj];rw[gb]) (Y (X o [])) 0 fuel (by omega) (cM (cA (by omega))) (by omega);rw[show bR (yQ o x) 0=_ from b,Hz]
def awi{o:Q (M aN)}(j:bm (X o [])≤1073741824)(x:aN):Lf o x=J (mS (X o []) x):=by
 have k:=awh j x;have l:=eT (X o []);unfold Lf mS aX aM au ah al bd;dsimp-proj only[aj];by_cases k1:x.1=1;rw[aF (by simpa using k1),aF k1];cases d:(X o []).getLast? with
 |none=>
  have m:X o []=[]:=by simpa using d
  rw[m];by_cases a:x.2.1=[]<;>by_cases b:x.2.2=0<;>simp[a,b]
 |some y=>
  let⟨q,n⟩:=ahR.1 d;have g:=j;rw[n]at l g ⊢;have w:aby a7 (ag (q++[y])-1)=(Y q:L):=by simp at l ⊢;grind [cf]
  have hd:H (q++[y]) (Y q) (0,[],0)=y:=by simp
  simp only[w,fq,hd];rw[aF (by simp;grind)];by_cases a:x.2.1=[]<;>by_cases b:x.2.2=0<;>by_cases c:y.1=1<;>simp[a,b,c]
 rw[aV (by simpa using k1),aV k1];by_cases k5:x.1=5;rw[aF (by simpa using k5),aF k5,B5];cases iG x.2.1<;>by_cases b:x.2.2=0<;>simp[b];rw[aV (by simpa using k5),aV k5];by_cases pA:x.1=2∨x.1=4;rw[aF (by rcases pA with h|h<;>simp[h]),aF pA,Vu,k]
 cases oX x.2.1;simp;by_cases e:x.2.2<1;have:¬1≤x.2.2:=by omega
 simp[e,this];by_cases f:x.2.2>999;have:¬x.2.2≤999:=by omega
 simp[e,f,this];have c1:1≤x.2.2:=by omega
 have i:x.2.2≤999:=by omega
 cases(X o []).all (oY x)<;>simp[e,f,c1,i];rw[aV (by simp;omega),aV pA];by_cases k3:x.1=3;rw[aF (by simpa using k3),aF k3,B5,show acv=yQ from rfl,k];cases iG x.2.1;simp;by_cases e:x.2.2<1;have:¬1≤x.2.2:=by omega
 simp[e,this];by_cases f:x.2.2>999;have:¬x.2.2≤999:=by omega
 simp[e,f,this];have c1:1≤x.2.2:=by omega
 have i:x.2.2≤999:=by omega
 cases(X o []).all (oY x)<;>simp[e,f,c1,i];grind
theorem Nu(o:Q (M aN))(i:U):X (gj (bu 0 (i:L)) o) []=(X o []).take i:=by have:∀l:M aN,bu 0 (i:L) l=l.take i:=λl=>gX l 0 i;cases o<;>simp[this]
theorem af0(f:M aN)(i:U):bm (f.take i)≤bm f:=by grind [jl,nQ]
def jB(f:M aN):L:=if Y f>512∨cx f>1024 then 3 else
 match gv (λi=>match f[i]? with|some x=>(if mS (f.take i) x=0 then O else J (mS (f.take i) x))|none=>O) 0 (Y f) with|some e=>e|none=>0
def VD{o:Q (M aN)}(a:bm (X o [])≤1073741824):Bw o=J (jB (X o [])):=by
 have b:=eT (X o []);unfold Bw jB aX aK al;rw[sq a];by_cases c1:Y (X o [])>512;rw[aF (by simp;omega),aF (.inl c1)];rw[aV (by simp;omega),aG];by_cases c:cx (X o [])>1024;grind;rw[aV (by simp;omega),aV (by omega)];rw[ae5 (f:=Lg o) (Y (X o [])) (λi=>match(X o [])[i]? with|some x=>(if mS ((X o []).take i) x=0 then O else J (mS ((X o []).take i) x))|none=>O) (λi hi=>by have hk:=awi (o:=gj (bu 0 (i:L)) o) (by grind [Nu,af0]) (X o [])[i];rw[Nu]at hk;unfold Lg cJ aM cr aK ah al ay aH aA;rw[dQ hi,aF (by simp;omega),aF (dA hi),cW hi,hk,eM hi,eh (by omega)];grind [aG,wE]) (by unfold Lg cJ aM cr aK ah al ay aH aA;rw[gb]) (cM (cA (by omega))),aG,ae6]
 grind
def awj{o:Q (M aN)}(d:bm (X o [])≤1073741824){i:U}(hi:i<Y (X o [])):∃b,LV o (i:L)=J b∧(b=I→mS ((X o []).take i) (X o [])[i]=1)∧(b=W→mS ((X o []).take i) (X o [])[i]=if fk (X o [])[i]=W then(if((X o []).take i).all (oY (X o [])[i])then 0 else 7)else 0):=by
 have e:=eT (X o []);have a:∀j,i=j+1→((X o []).take i).getLast?=(X o [])[j]? :=λj c=>by grind
 unfold LV mS fk cJ aM au ah al bd;dsimp-proj only[aj];rw[aF (dA hi),cW hi];generalize f:(X o [])[i]=x;by_cases k1:x.1=1;rw[aF (by simpa using k1)];simp only[aF k1];have kt:(x.1==2||(x.1==3||x.1==4))=I:=by simp[k1]
 rw[kt];cases i with
 |zero=>grind|succ j=>
  have w:aby a7 (((j+1:U):L)-1)=(j:L):=by grind [cf]
  have c:j<Y (X o []):=by omega
  have g:(((j+1:U):L)==0)=I:=by grind
  simp_all
 rw[aV (by simpa using k1)];simp only[aV k1];by_cases k5:x.1=5;rw[aF (by simpa using k5),wG];simp_all;rw[aV (by simpa using k5)];simp only[aV k5];by_cases pA:x.1=2∨x.1=4;rw[aF (by rcases pA with h|h<;>simp[h]),Vt]
 simp only[aF pA,aG];have kt:(x.1==2||(x.1==3||x.1==4))=W:=by rcases pA with h|h<;>simp[h]
 grind;rw[aV (by simp;omega)];simp only[aV pA];by_cases k3:x.1=3;rw[aF (by simpa using k3),wG];simp only[aF k3,aG];grind;simp_all
def af1{o:Q (M aN)}(a:bm (X o [])≤1073741824):y0 o=J (jB (X o [])):=by
 have m:=eT (X o []);unfold y0 jB aX aK al;rw[GV a];by_cases c1:Y (X o [])>512;rw[aF (by simp;omega),aF (.inl c1)];rw[aV (by simp;omega),aG];by_cases n:cx (X o [])>1024;grind;rw[aV (by simp;omega),aV (by omega)];rw[ae5 (f:=LW o) (Y (X o [])) (λi=>match(X o [])[i]? with|some x=>(if mS ((X o []).take i) x=0 then O else J (mS ((X o []).take i) x))|none=>O) (λi hi=>by
  let⟨b,e,j,k⟩:=awj a hi
  have c:=awg (o:=gj (bu 0 (i:L)) o) (by grind [Nu,af0]) (X o [])[i]
  rw[Nu]at c
  unfold LW qF bJ aM cr ah al ay aH aA
  rw[nC hi,cW hi,e,c,eM hi,eh (by omega)]
  show aq (J b) (λl=>if(!l)=W then _ else aq (J (fk (X o [])[i])) _)=_
  cases b with|false=>simp[j rfl,wE]|true=>have g:=k rfl;cases d:fk (X o [])[i];rw[d]at g;simp at g;simp[g,wE];rw[d]at g;cases h:((X o []).take i).all (oY (X o [])[i]);rw[h]at g;simp at g;simp[g,wE];omega;rw[h]at g;simp at g;simp[g,wE];omega) (by unfold LW bJ aM cr ah al ay aH aA;rw[gb]) (cM (cA (by omega))),aG,ae6]
 grind
def nL(fmt:L)(c:ao):M ao:=if fmt=1 then(if c=60 then[38,108,116,59]else if c=38 then[38,97,109,112,59]else if c=123 then[38,108,98,59]else[c]) else if fmt=2 then(if c=10 then[92,110]else if c=9 then[92,116]else if c=13 then[92,114]else if c=92 then[92,92]else if c=123 then[92,123]else[c]) else if c=34 then[34,34]else if c=123 then[123,123]else[c]
theorem af2(fmt:L)(c:ao):Y (nL fmt c)≤5:=by
 unfold nL;repeat' split
 all_goals simp
theorem zt(fmt:L):∀s:M ao,Y (s.flatMap (nL fmt))≤5*Y s|[]=>by simp|c::s=>by have:=zt fmt s;grind [af2]
theorem awk(c:ao):kC (G (aZ c))=c:=by grind [aZ,UInt8.ofNat_toNat]
def wN(c b:ao):(aZ c==aZ b)=decide (c=b):=by grind [zn]
def awl{fmt:L}(j:fJ fmt)(c:ao):BA fmt (aZ c)=J (nL fmt c):=by have b:=wN c 60;have d:=wN c 38;have a:=wN c 123;have e:=wN c 10;have i:=wN c 9;have f:=wN c 13;have g:=wN c 92;have h:=wN c 34;rw[show aZ 60=60 from rfl]at b;rw[show aZ 38=38 from rfl]at d;rw[show aZ 123=123 from rfl]at a;rw[show aZ 10=10 from rfl]at e;rw[show aZ 9=9 from rfl]at i;rw[show aZ 13=13 from rfl]at f;rw[show aZ 92=92 from rfl]at g;rw[show aZ 34=34 from rfl]at h;unfold BA nL iw ah bv;grind [awk]
def i6(fmt:L)(x:aN):M ao:=if x.1=1 then x.2.1.flatMap (nL fmt)else if x.1=2 then[60]++x.2.1++[62]else if x.1=3 then[60,47]++x.2.1++[62]else if x.1=4 then[60]++x.2.1++[47,62]else if x.1=5 then[123]++x.2.1++[125]else[]
def ug(fmt:L)(x:aN):az:=fk x&&(fmt !=1||qM (ic x.2.1))
def iN(fmt:L)(f:M aN):M ao×L:=if jB f=0 then(if f.any (ug fmt)=W then([],7)else(f.flatMap (i6 fmt),0))else([],jB f)
theorem awm(fmt:L)(x:aN):Y (i6 fmt x)≤5*(Y x.2.1+1):=by grind [i6,zt]
theorem G6(fmt:L):∀f:M aN,Y (f.flatMap (i6 fmt))≤5*bm f|[]=>by simp|x::f=>by have:=G6 fmt f;grind [awm,bm]
def wO{σ ρ a:Type}{F:σ→Q (σ⊕ρ⊕a)}(n:U)(st:U→σ)(bad:U→az)(r:ρ)(z:a)(step:∀i,i<n→F (st i)=if bad i=W then J (.inr (.inl r))else J (.inl (st (i+1))))(stop:F (st n)=J (.inr (.inr z)))(hn:n<fuel):bR F (st 0)=J (if(iz n).any bad=W then .inl r else .inr z):=by
 have key:∀(k i m:U),i+k=n→k<m→eD F m (st i)=J (if((iz n).drop i).any bad=W then .inl r else .inr z):=by
  intro k;induction k with
  |zero=>intro i m hi b;obtain⟨m,rfl⟩:∃q,m=q+1:=⟨m-1,by omega⟩;simp_all [eD,List.drop_of_length_le]
  |succ k c=>intro i m hi b;obtain⟨m,rfl⟩:∃q,m=q+1:=⟨m-1,by omega⟩;grind [eD,xe]
 simp_all [bR]
theorem Nv(p:aN→az)(f:M aN):(iz (Y f)).any (λi=>p (H f i (0,[],0)))=f.any p:=by
 have:(iz (Y f)).map (λi=>H f i (0,[],0))=f:=by apply List.ext_getElem (by simp);grind
 grind
def awn{fmt:L}(a:fJ fmt){o:Q (M aN)}{i:U}(hi:i<Y (X o []))(x:aN)(hx:(X o [])[i]=x)(e:bm (X o [])≤67108864)(acc:M ao)(g:Y acc≤1073741824):bR (BB fmt o (acc,(i:L))) (acc,0)=J (acc++x.2.1.flatMap (nL fmt)):=by
 have b:=wM hi;rw[hx]at b;have c:(acc,(0:L))=(acc++(x.2.1.take 0).flatMap (nL fmt),((0:U):L)):=by simp
 rw[c];refine eS (f:=BB fmt o (acc,(i:L))) (Y x.2.1) (λk=>(acc++(x.2.1.take k).flatMap (nL fmt),(k:L))) (r:=acc++x.2.1.flatMap (nL fmt)) (λk hk=>?_) ?_ (cM (cA (by omega)));unfold BB iW aM iw aK cz ay aH aA fE;dsimp-proj only[aj];simp only[cW hi,hx];have d:=di (i:=k) (by omega);have h1:=zt fmt (x.2.1.take k);have h2:=af2 fmt x.2.1[k];have h3:Y (x.2.1.take k)≤k:=by simp;omega
 rw[dQ hk,aF (by simp),aF (by unfold bT;rw[iJ];exact hk)];show aq (BA fmt (aZ (H x.2.1 (G ((k:L))) 0))) _=_;rw[lL hk,awl a,aG,aF (by grind),d,iP hk,xb];simp;unfold BB iW aM iw aK cz ay aH aA fE;dsimp-proj only[aj];simp_all
def awo{fmt:L}{o:Q (M aN)}(s:M ao×L):acw fmt o s=BB fmt o s:=rfl
def VE{f:M aN}(h:jB f=0){i:U}(hi:i<Y f):f[i].1=1∨f[i].1=2∨f[i].1=3∨f[i].1=4∨f[i].1=5:=by grind [jB,wD,B4,mS]
def VG{fmt:L}{f:M aN}{i:U}(hi:i<Y f):(f.take (i+1)).flatMap (i6 fmt)=(f.take i).flatMap (i6 fmt)++i6 fmt f[i]:=by rw[iP hi,xb];simp
def VH{fmt:L}(b:fJ fmt){o:Q (M aN)}(c:bm (X o [])≤67108864):BD fmt o=J (iN fmt (X o [])):=by
 have a:=eT (X o []);unfold BD iN aX ah;rw[VD (by omega),aG];by_cases hv:jB (X o [])=0;rw[hv,aV (by decide),aF rfl];have:=wO (F:=Lk fmt o) (Y (X o [])) (λi=>(((X o []).take i).flatMap (i6 fmt),(i:L))) (λi=>ug fmt (H (X o []) i (0,[],0))) ([],7) ((X o []).flatMap (i6 fmt)) (λi hi=>by
  have hk:=VE hv hi
  have f:=G6 fmt ((X o []).take i)
  have hT:=zr (X o []) i
  have g:=wM hi
  have h:=awn b hi _ rfl c (((X o []).take i).flatMap (i6 fmt)) (by omega)
  have d:=di (i:=i) (by omega)
  have e:H (X o []) i (0,[],0)=(X o [])[i]:=by grind
  rw[VG hi,e]
  unfold Lk pF bJ aX aM au ah al ay aH aA c9 bv jh;dsimp-proj only[aj]
  simp only[awo]
  rw[dQ hi,aF (dA hi)]
  simp only[cW hi,d]
  grind [i6,aG,wK,ug,fk,Vv]) (by
  unfold Lk bJ aX aM au ah al ay aH aA c9 bv jh;dsimp-proj only[aj]
  simp_all) (cM (cA (by omega)))
 rw[Nv]at this;rw[show(([],0):M ao×L)=(((X o []).take 0).flatMap (i6 fmt),((0:U):L)) by simp,this,aG];split<;>rfl;grind
def oZ(fmt:L):M (ao×M ao):=if fmt=1 then[(60,[38,108,116,59]),(38,[38,97,109,112,59]),(123,[38,108,98,59])] else if fmt=2 then[(10,[92,110]),(9,[92,116]),(13,[92,114]),(92,[92,92]),(123,[92,123])] else[(34,[34,34]),(123,[123,123])]
def o0(fmt:L):Q (M (M ao)):=J ((oZ fmt).flatMap λp=>[[p.1],p.2])
theorem awp(a:ao)(n:M ao)(r:M (ao×M ao))(c:ao):X (eZ ((a,n)::r) c) [c]=if c=a then n else(X (eZ r c)) [c]:=by grind [eZ]
theorem awq(c:ao):X (eZ [] c) [c]=[c]:=rfl
theorem awr{fmt:L}(a:fJ fmt)(c:ao):X (eZ (oZ fmt) c) [c]=nL fmt c:=by grind [oZ,nL,awp,awq]
theorem af3{fmt:L}(a:fJ fmt)(t:M ao):FE (oZ fmt) t=t.flatMap (nL fmt):=by unfold FE;congr 1;grind [awr]
theorem aws{fmt:L}(a:fJ fmt){t:M ao}(h:Y t≤67108864):BP (oZ fmt) t=W:=by
 unfold BP;rw[af3 a];have:=zt fmt t;have h1:(decide (2≤Y (oZ fmt))&&decide (Y (oZ fmt)≤1000)&&decide (((oZ fmt).map (·.1)).Nodup)&&(oZ fmt).all (λp=>decide (2≤Y p.2)))=W:=by rcases a with rfl|rfl|rfl<;>decide
 grind
theorem awt{fmt:L}(a:fJ fmt):wq (X (o0 fmt) [])=J (oZ fmt):=by rcases a with rfl|rfl|rfl<;>rfl
def pN(fmt:L)(f:M aN):L×L×M (ao×M ao)×Q (M (M ao)):=if f.any (λx=>x.1==1)=W then(1,0,oZ fmt,O)else(0,0,[],o0 fmt)
def af4{fmt:L}(a:fJ fmt)(f:M aN){t:M ao}(h:Y t≤67108864)(z:L):tN t ((pN fmt f).1,(pN fmt f).2.1,z,(pN fmt f).2.2)=J (t.flatMap (nL fmt),1,0,oZ fmt,O):=by grind [tN,pN,aws,af3,awt]
def af5{fmt:L}{f:M aN}{i:U}(hi:i<Y f):pN fmt (f.take (i+1))=if f[i].1=1 then(1,0,oZ fmt,O)else pN fmt (f.take i):=by grind [pN,iP]
def Nw{fmt:L}(a:fJ fmt):wo (o0 fmt)=J (0,0,0,[],o0 fmt):=by rcases a with rfl|rfl|rfl<;>rfl
def af6{o:Q (M aN)}{fmt:L}(a:fmt=2∨fmt=3)(g:bm (X o [])≤67108864)(hv:jB (X o [])=0):bR (FH o (0,0,0,[],o0 fmt)) ([],0,0,0,[],o0 fmt)=J (if(X o []).any (ug fmt)=W then .inl ([],7)else .inr ((X o []).flatMap (i6 fmt))):=by
 have b:=eT (X o []);have c:fJ fmt:=.inr a;have:=wO (F:=FH o (0,0,0,[],o0 fmt)) (Y (X o [])) (λi=>(((X o []).take i).flatMap (i6 fmt),(i:L),pN fmt ((X o []).take i))) (λi=>ug fmt (H (X o []) i (0,[],0))) ([],7) ((X o []).flatMap (i6 fmt)) (λi hi=>by
  have hk:=VE hv hi
  have h:=G6 fmt ((X o []).take i)
  have hT:=zr (X o []) i
  have j:=wM hi
  have k:=di (i:=i) (by omega)
  have d:H (X o []) i (0,[],0)=(X o [])[i]:=by grind
  have l:=af4 c ((X o []).take i) (t:=(X o [])[i].2.1) (by omega) 0
  rw[VG hi,af5 hi,d]
  have e:(fmt !=1)=W:=by rcases a with rfl|rfl<;>rfl
  have f:=zt fmt (X o [])[i].2.1
  unfold FH bJ aM iw au ah al ay aH aA c9 bv;dsimp-proj only[aj]
  simp only[]
  rw[dQ hi,aF (dA hi)]
  grind [cW,i6,ug,fk,aG]) (by
  unfold FH bJ aM iw au ah al ay aH aA c9 bv;dsimp-proj only[aj]
  simp_all) (cM (cA (by omega)))
 grind [Nv,pN]
def awu{o:Q (M aN)}(j:bm (X o [])≤67108864)(hv:jB (X o [])=0):bR (FF o (0,0,0,[],o0 1)) ([],0,0,0,[],o0 1)=J (if(X o []).any (ug 1)=W then .inl ([],7)else .inr ((X o []).flatMap (i6 1))):=by
 have b:=eT (X o []);have d:fJ 1:=.inl rfl;have:=wO (F:=FF o (0,0,0,[],o0 1)) (Y (X o [])) (λi=>(((X o []).take i).flatMap (i6 1),(i:L),pN 1 ((X o []).take i))) (λi=>ug 1 (H (X o []) i (0,[],0))) ([],7) ((X o []).flatMap (i6 1)) (λi hi=>by
  have hk:=VE hv hi
  have k:=G6 1 ((X o []).take i)
  have hT:=zr (X o []) i
  have c:=wM hi
  have e:=di (i:=i) (by omega)
  have f:H (X o []) i (0,[],0)=(X o [])[i]:=by grind
  have g:=af4 d ((X o []).take i) (t:=(X o [])[i].2.1) (by omega) 0
  rw[VG hi,af5 hi,f]
  have a:=zt 1 (X o [])[i].2.1
  have h:=Nl (s:=(X o [])[i].2.1) (by omega)
  unfold FF bJ aM iw au ah al ay aH aA c9 bv jh;dsimp-proj only[aj]
  simp only[]
  rw[dQ hi,aF (dA hi)]
  simp only[cW hi,e]
  generalize (X o [])[i]=x at *
  generalize ((X o []).take i).flatMap (i6 1)=acc at *
  generalize pN 1 ((X o []).take i)=rs at *
  let⟨kd,t,id⟩:=x
  have c:Y t+1≤bm (X o []):=c
  simp only[]at a g hk
  unfold ug fk i6
  simp only[h,Vw,aG]
  rcases hk with rfl|rfl|rfl|rfl|rfl
  grind [aG]
  all_goals
   grind) (by
  unfold FF bJ aM iw au ah al ay aH aA c9 bv jh;dsimp-proj only[aj]
  simp_all) (cM (cA (by omega)))
 grind [Nv,pN]
def af7{fmt:L}(a:fJ fmt){o:Q (M aN)}(b:bm (X o [])≤67108864):FK fmt o=J (iN fmt (X o [])):=by
 have d:=λfmt(a:fJ fmt)=>Nw a;unfold FK iN ah;have c:=af1 (o:=o) (by omega);by_cases hv:jB (X o [])=0;rcases a with rfl|rfl|rfl
 rw[aF (by decide)];unfold FG aX ah;rw[c,aG,hv,aV (by decide)];rw[show J [[60],[38,108,116,59],[38],[38,97,109,112,59],[123],[38,108,98,59]]=o0 1 from rfl,Nw (fmt:=1) (.inl rfl),aG,awu b hv];simp only[aG,bI];split<;>rfl;rw[aV (by decide),aF (by decide)];unfold FI aX ah;rw[c,aG,hv,aV (by decide)];rw[show J [[10],[92,110],[9],[92,116],[13],[92,114],[92],[92,92],[123],[92,123]]=o0 2 from rfl,Nw (fmt:=2) (.inr (.inl rfl)),aG,af6 (.inl rfl) b hv];simp only[aG,bI];split<;>rfl;rw[aV (by decide),aV (by decide)];unfold FJ aX ah;rw[c,aG,hv,aV (by decide)];rw[show J [[34],[34,34],[123],[123,123]]=o0 3 from rfl,Nw (fmt:=3) (.inr (.inr rfl)),aG,show bR (acx o _) _=_ from af6 (.inr rfl) b hv];simp only[aG,bI];split<;>rfl;simp_all [FG,FI,FJ,aX,ah]
def awv(x y:aN):(x.1==y.1&&(decide (x.2.1=y.2.1)&&(x.2.2==y.2.2&&W)))=decide (x=y):=by grind
def af8{a b:Q (M aN)}(f:Y (X a [])≤1073741824):E3 a b=J (decide (X a []=X b [])):=by
 unfold E3 aX ah al;by_cases d:Y (X a [])=Y (X b []);have c:(ag (X a []) !=ag (X b []))=I:=by simp[bne];omega
 rw[c];refine(Ni d (cM (cA (by omega))) (λi h1 h2=>?_) ?_);unfold Sq aM au aK ah al ay aH aA;rw[dQ h1,cW h1,cW h2,awv,aF (by simp;omega),eh (by omega)];by_cases h:(X a [])[i]=(X b [])[i]<;>simp[h];unfold Sq aM au aK ah al ay aH aA;rw[gb];have c:(ag (X a []) !=ag (X b []))=W:=by simp[bne];omega
 rw[c,jC λe=>d (bX wX e)];rfl
def aww{a b:Q (M aN)}(c:Y (X a [])≤1073741824):Ma a b=J (decide (X a []=X b [])):=by have:SJ a b=E3 a b:=rfl;unfold Ma;rw[this,af8 c];rfl
def af9{f:M aN}{i:U}(h:i<Y f):(f.take (i+1)).filter fk=(f.take i).filter fk++(if fk f[i]=W then[f[i]]else[]):=by rw[iP h,List.filter_append];cases a:fk f[i]<;>simp[a]
def aga{o:Q (M aN)}(c:Y (X o [])≤1073741824):FY o=J (aT ((X o []).filter fk)):=by
 have:bR (FX o) (O,0)=J (aT ((X o []).filter fk)):=by
  refine eS (f:=FX o) (Y (X o [])) (λi=>(aT (((X o []).take i).filter fk),(i:L))) (λi hi=>?_) ?_ (cM (cA (by omega)));have b:=HO fk ((X o []).take i);have a:Y ((X o []).take i)≤Y (X o []):=by simp;omega
  unfold FX qF bJ aM au ah al ay aH aA bv;rw[af9 hi,nC hi,cW hi,eh (by omega)];grind [fk,aG,cw,jM];unfold FX bJ aM au ah al ay aH aA bv;simp_all
 unfold FY aX au;rw[this];simp
def agb{o:Q (M aN)}(c:Y (X o [])≤1073741824):ET o=J (aT ((X o []).filter fk)):=by
 have:bR (ES o) (O,0)=J (aT ((X o []).filter fk)):=by
  refine eS (f:=ES o) (Y (X o [])) (λi=>(aT (((X o []).take i).filter fk),(i:L))) (λi hi=>?_) ?_ (cM (cA (by omega)));have b:=HO fk ((X o []).take i);have a:Y ((X o []).take i)≤Y (X o []):=by simp;omega
  unfold ES pF bJ aM au ah al ay aH aA bv;rw[af9 hi,nC hi,cW hi,eh (by omega)];show aq (J (fk (X o [])[i])) _=_;rw[aG,cw];cases d:fk (X o [])[i];simp;rw[aF (by simp;omega)];simp[jM];unfold ES bJ aM au ah al ay aH aA bv;simp_all
 unfold ET aX au;rw[this];simp
abbrev Shp:=Q (M L)×Q (M L)×az
def agc{o:Q (M aN)}(s:Y (X o [])≤1073741824):∃r:Shp,FW o=J r∧EN o=J r∧Y (X r.1 [])≤Y (X o [])∧Y (X r.2.1 [])≤Y (X o []):=by
 have key:=qI (f:=SL o) (g:=Sp o) (λx y=>x=y∧∃(i:U)(p q:Q (M L)),x=(p,q,(i:L))∧i≤Y (X o [])∧Y (X p [])≤i∧Y (X q [])≤i) (λr q=>r=q∧((r=.inl (O,O,I))∨∃p q:Q (M L),r=.inr (p,q)∧Y (X p [])≤Y (X o [])∧Y (X q [])≤Y (X o [])))
  (λx=>Y (X o [])-G x.2.2) (λx y h=>by
    obtain⟨rfl,i,p,q,rfl,h1,h2,h3⟩:=h
    unfold SL Sp bJ aM au ah al ay bd aH aA bv;dsimp-proj only[aj]
    simp only[]
    rcases js i (Y (X o [])) with hi|hi
    have w:=di (i:=i) (by omega)
    rw[nC hi,nC hi,cW hi,w,dA hi]
    generalize (X o [])[i]=x
    by_cases k2:x.1=2
    left
    refine⟨_,_,?_,?_,⟨rfl,i+1,p,J (X q []++[x.2.2]),rfl,by omega,by omega,by simp;omega⟩,by simp only[];omega⟩
    simp[k2];omega
    simp[k2];omega
    by_cases k3:x.1=3
    by_cases t:Y (X q [])=0
    left
    have a:(ag (X q [])==0)=W:=by simp_all
    refine⟨_,_,?_,?_,⟨rfl,i+1,J (X p []++[x.2.2]),q,rfl,by omega,by simp;omega,by omega⟩,by simp only[];omega⟩
    grind
    grind
    have a:(ag (X q [])==0)=I:=by simp_all
    have c:aby a7 (ag (X q [])-1)=((Y (X q [])-1:U):L):=by grind [dv,cf]
    have d:V (gj (bu 0 ((Y (X q [])-1:U):L)) q)=V q:=by cases q<;>rfl
    have e:Y (X (gj (bu 0 ((Y (X q [])-1:U):L)) q) [])≤i:=by
     cases q with|none=>simp|some l=>grind [bu]
    simp only[a,c,d]
    by_cases b:H (X q []) (0+G (((Y (X q [])-1:U):L))) 0=x.2.2
    left
    refine⟨_,_,?_,?_,⟨rfl,i+1,p,gj (bu 0 ((Y (X q [])-1:U):L)) q,rfl,by omega,by omega,by omega⟩,by simp only[];omega⟩
    rw[aV (by simpa using k2),aV (by simp),aF (by simp[c8];omega),aF (by rw[b];simp[k3]),aF (by simp)]
    rw[aV (by simpa using k2),aF (by simpa using k3),aV (by simp),aF (by simp[c8];omega),aF (by rw[b];simp),aF (by simp)]
    right
    refine⟨_,_,?_,?_,⟨rfl,.inl rfl⟩⟩
    rw[aV (by simpa using k2),aV (by simp),aF (by simp[c8];omega),aV (by grind),aF (by simpa using k3)]
    rw[aV (by simpa using k2),aF (by simpa using k3),aV (by simp),aF (by simp[c8];omega),aV (by simpa using b)]
    left
    have j:(x.1==3)=I:=by simpa using k3
    refine⟨_,_,?_,?_,⟨rfl,i+1,p,q,rfl,by omega,by omega,by omega⟩,by simp only[];omega⟩
    grind
    grind
    right
    rw[show i=Y (X o []) by omega,gb,gb]
    grind) (x:=(O,O,0)) (y:=(O,O,0)) ⟨rfl,0,O,O,rfl,by omega,by simp,by simp⟩ (kQ (xf _ _) (cM (cA (by omega))))
 obtain⟨r,q,k,m,rfl,n⟩:=key;unfold FW EN aX au;rw[k,m];rcases n with rfl|⟨p,q,rfl,h1,h2⟩
 simp_all;simp_all
def awy{V:Type}(x:L):du (V:=V) (.int .i64) x []=O:=rfl
theorem G7{V:Type}(x:L)(r:L×V)(l:M (L×V)):du (.int .i64) x (r::l)=if x=r.1 then J r.2 else du (.int .i64) x l:=by
 show(match(x==r.1)with|true=>J r.2|false=>du (.int .i64) x l)=_
 grind
def VI{V:Type}(x:L)(y:V)(r:L×V)(l:M (L×V)):fZ (.int .i64) x y (r::l)=if x=r.1 then(x,y)::l else r::fZ (.int .i64) x y l:=by
 show(match(x==r.1)with|true=>(x,y)::l|false=>r::fZ (.int .i64) x y l)=_
 grind
def awz{V:Type}(x:L)(y:V):fZ (.int .i64) x y []=[(x,y)]:=rfl
def agd{V:Type}(z x:L)(y:V):∀l:M (L×V),du (.int .i64) z (fZ (.int .i64) x y l)=if z=x then J y else du (.int .i64) z l|[]=>by rw[awz,G7]|r::l=>by rw[VI];by_cases h:x=r.1;grind [G7];rw[aV h,G7,G7,agd z x y l];grind
def o4(out:M L)(x:aN):M L:=if fk x=W∧x.2.2 ∉ out then out++[x.2.2]else out
def kz(f:M aN):M L:=f.foldl o4 []
def age{f:M aN}{i:U}(h:i<Y f):kz (f.take (i+1))=o4 (kz (f.take i)) f[i]:=by grind [iP,kz]
theorem Nx:∀(f:M aN)(out:M L),Y (f.foldl o4 out)≤Y out+Y f|[],out=>by simp|x::f,out=>by have:=Nx f (o4 out x);grind [o4]
def agf(f:M aN){i:U}(h:i≤Y f):Y (kz (f.take i))≤i:=by grind [Nx,kz]
def agh(n:L):∀out:M L,du (.int .i64) n (out.map λk=>(k,W))=if n∈out then J W else O|[]=>rfl|k::out=>by rw[eU,G7,agh n out];grind
theorem agi(n:L):∀out:M L,n ∉ out→fZ (.int .i64) n W (out.map λk=>(k,W))=(out++[n]).map λk=>(k,W)|[],_=>rfl|k::out,h=>by simp at h;rw[eU,VI,aV h.1,agi n out h.2];rfl
def awA{o:Q (M aN)}(b:Y (X o [])≤1073741824):L2 o=J (aT (kz (X o []))):=by
 have:bR (FQ o) (O,[],0)=J (aT (kz (X o []))):=by refine eS (f:=FQ o) (Y (X o [])) (λi=>(aT (kz ((X o []).take i)),(kz ((X o []).take i)).map (λk=>(k,W)),(i:L))) (λi hi=>?_) ?_ (cM (cA (by omega)));have a:=agf (X o []) (Nat.le_of_lt hi);rw[age hi];unfold FQ qF o4 bJ aM au ah al ay aH aA bv;dsimp-proj only[aj];simp only[];rw[nC hi,cW hi,eh (by omega),agh];grind [fk,aG,cw,agi,jM];unfold FQ bJ aM au ah al ay aH aA bv;dsimp-proj only[aj];simp_all
 unfold L2 aX au;rw[this];simp
def awB{o:Q (M L)}(a:(o.getD []).length≤1073741824)(n:L):Lh o n=J (decide (n∈o.getD [])):=by
 have st:∀i(hi:i<(o.getD []).length),Bx o n (i:L)=if(o.getD [])[i]=n then J (.inr (.inl W))else J (.inl ((i+1:U):L)):=λi hi=>by unfold Bx au aK ah al ay aH aA;rw[dQ hi,aF (by simp[c8,hi]),wZ,cW hi,eh (by omega)];by_cases h:(o.getD [])[i]=n<;>simp[h]
 have:=aca (f:=Bx o n) (λi=>(i:L)) (o.getD []).length (λi=>(o.getD [])[i]?≠J n) (.inl W) (.inr ()) (λi hi hp=>by grind) (λi hi hp=>by grind) (by unfold Bx au aK ah al ay aH aA;rw[gb]) (cM (cA (by omega)));unfold Lh aX;by_cases h:n∈o.getD [];simp_all [List.getElem_of_mem];rw[show bR (Bx o n) 0=_ from this.1 λi hi e=>h (List.mem_of_getElem? e),jC h];rfl
def awC{o:Q (M aN)}(c:Y (X o [])≤1073741824):Bz o=J (aT (kz (X o []))):=by
 have:bR (EX o) (O,0)=J (aT (kz (X o []))):=by refine eS (f:=EX o) (Y (X o [])) (λi=>(aT (kz ((X o []).take i)),(i:L))) (λi hi=>?_) ?_ (cM (cA (by omega)));have b:=agf (X o []) (Nat.le_of_lt hi);have a:=awB (o:=aT (kz ((X o []).take i))) (by rw[cw];omega) (X o [])[i].2.2;rw[cw]at a;rw[age hi];unfold EX pF o4 bJ cJ aM au ah al ay aH aA bv;dsimp-proj only[aj];simp only[];rw[nC hi,cW hi,eh (by omega),a];grind [fk,aG,cw,dA,jM];unfold EX bJ cJ aM au ah al ay aH aA bv;dsimp-proj only[aj];simp_all
 unfold Bz aX au;rw[this];simp
def cnt(n:U):M L:=(iz n).map λ(j:U)=>(j:L)+1
theorem agj(n:U):cnt (n+1)=cnt n++[(n:L)+1]:=by simp[cnt,xc]
theorem Ny(n:U):Y (cnt n)=n:=by simp[cnt]
def agk{n k:U}(h:k<n):H (cnt n) k 0=(k:L)+1:=by rw[jP];simp[cnt,h]
def awD{n:U}(hn:n≤1073741824):FU (n:L)=J (J (cnt n)):=by
 have:bR (FT (n:L)) (ep n 0,0)=J (cnt n):=by
  have a:=eS (f:=FT (n:L)) n (λi=>(cnt i++ep (n-i) 0,(i:L))) (r:=cnt n) (λi hi=>?_) ?_ (cM (cA (by omega)));simpa[cnt]using a;have b:=Ny i;have c:ep (n-i) (0:L)=0::ep (n-(i+1)) 0:=by rw[show n-i=(n-(i+1))+1 by omega,List.replicate_succ]
  have d:(cnt i++(0:L)::ep (n-(i+1)) 0).set i ((i:L)+1)=cnt (i+1)++ep (n-(i+1)) 0:=by simp_all [agj]
  unfold FT au aK ay aH aA;rw[c,aF (by simp;omega),aF (by simp[c8,b];omega)];grind [cf];simp_all [FT,au,aK,ay,aH,aA]
 unfold FU aX cr;rw[aF (by simp;omega),fq,this];rfl
def awE{n:U}(hn:n≤1073741824):E2 (n:L)=J (aT (cnt n)):=by
 have:bR (E1 (n:L)) (O,1)=J (aT (cnt n)):=by refine eS (f:=E1 (n:L)) n (λi=>(aT (cnt i),(i:L)+1)) (λi hi=>?_) ?_ (cM (cA (by omega)));grind [Ny,E1,cw,jM,agj,cf];grind [E1]
 unfold E2 aX au;rw[this];simp
def sx(z:L):M L→U→Q L|[],_=>O|a::r,k=>if z=a then J ((k:L)+1)else sx z r (k+1)
def agl(z:L):∀(l:M L)(a:U),z∈l→∃k,sx z l a=J (((a+k:U):L)+1)∧l[k]?=J z∧∀j,j<k→l[j]?≠J z|b::r,a,h=>by by_cases c:z=b;grind [sx];let⟨k,h1,h2,h3⟩:=agl z r (a+1) ((jQ.1 h).resolve_left c);refine⟨k+1,by grind [sx],h2,λj d=>?_⟩;grind
def awF{ns:M L}(hn:Y ns≤1073741824){o t:Q (M L)}(c:X o []=ns)(d:X t []=cnt (Y ns)):∃m,bR (L3 o t) ([],aby a7 (jw (ag ns) (ag (cnt (Y ns)))-1))=J m∧∀z,du (.int .i64) z m=sx z ns 0:=by
 have g:=Ny (Y ns);have k:jw (ag ns) (ag (cnt (Y ns)))=(Y ns:L):=by simp_all [jw]
 rw[k,eh (by omega)];refine gs (f:=L3 o t) (λs=>∃i:U,i≤Y ns∧s.2=(i:L)-1∧∀z,du (.int .i64) z s.1=sx z (ns.drop i) i) (λs=>G (s.2+1)) (λm=>∀z,du (.int .i64) z m=sx z ns 0) (λs h=>?_) _ ⟨Y ns,by omega,rfl,λz=>by rw[List.drop_length];exact awy z⟩ (cM (cA (by simp only[];omega)));let⟨m,l⟩:=s;obtain⟨i,hi,rfl,b⟩:=h;simp only[]at b;unfold L3 aM au aK al bd aH aA;simp only[c,d];cases i with
 |zero=>grind|succ j=>
  have e:((j+1:U):L)-1=(j:L):=by omega
  have a:j<Y ns:=by omega
  rw[e,aF (by simp),aF (by simp[g];omega),cW a,fq,agk a];refine⟨⟨j,by omega,by grind [cf],λz=>?_⟩,by grind [cf]⟩;simp only[];rw[agd,b z,xe a,sx]
def kN(ns:M L)(x:aN):M aN:=if fk x=W then(match sx x.2.2 ns 0 with|some n=>[(x.1,x.2.1,n)]|none=>[])else[x]
theorem G8(ns:M L):∀f:M aN,bm (f.flatMap (kN ns))≤bm f∧Y (f.flatMap (kN ns))≤Y f|[]=>by simp[bm]|x::f=>by let⟨h1,h2⟩:=G8 ns f;grind [bm,kN]
def agm{ns:M L}{f:M aN}{i:U}(h:i<Y f):(f.take (i+1)).flatMap (kN ns)=(f.take i).flatMap (kN ns)++kN ns f[i]:=by rw[iP h,xb];simp
def awG{f:Q (M aN)}(h:bm (X f [])≤536870912){ns:M L}(hn:Y ns≤1073741824){o t:Q (M L)}(a:X o []=ns)(b:X t []=cnt (Y ns)):L6 f o t=J (aT (dq ((X f []).flatMap (kN ns)))):=by
 have j:=eT (X f []);let⟨m,e,c⟩:=awF hn a b;have:bR (FR f m) (O,0)=J (aT ((X f []).flatMap (kN ns))):=by
  refine eS (f:=FR f m) (Y (X f [])) (λi=>(aT (((X f []).take i).flatMap (kN ns)),(i:L))) (λi hi=>?_) ?_ (cM (cA (by omega)));have h2:=(G8 ns ((X f []).take i)).2;have h3:Y ((X f []).take i)≤Y (X f []):=by simp;omega
  rw[agm hi];unfold FR qF kN bJ aM au ah al ay aH aA bv;dsimp-proj only[aj];simp only[];rw[nC hi,cW hi,eh (by omega),c];show aq (J (fk (X f [])[i])) _=_;rw[aG,cw];generalize (X f [])[i]=x at *;change (Y (((X f []).take i).flatMap (kN ns))≤_)at h2;generalize d:((X f []).take i).flatMap (kN ns)=out at *;have g:((X f []).take i).flatMap (λx=>if fk x=W then(match sx x.2.2 ns 0 with|some n=>[(x.1,x.2.1,n)]|none=>[])else[x])=out:=d
  grind [jM];unfold FR bJ aM au ah al ay aH aA bv;dsimp-proj only[aj];simp_all
 grind [L6,aG,afT,cw,G8]
def awH{f:Q (M aN)}(u:bm (X f [])≤536870912){ns:M L}(hn:Y ns≤1073741824){o t:Q (M L)}(m:X o []=ns)(n:X t []=cnt (Y ns)) (c:∀x∈X f [],fk x=W→x.2.2∈ns):Li f o t=J (aT (dq ((X f []).flatMap (kN ns)))):=by
 have v:=eT (X f []);have e:=Ny (Y ns);have:bR (EZ f o t) (O,0)=J (aT ((X f []).flatMap (kN ns))):=by
  refine eS (f:=EZ f o t) (Y (X f [])) (λi=>(aT (((X f []).take i).flatMap (kN ns)),(i:L))) (λi hi=>?_) ?_ (cM (cA (by omega)));have h2:=(G8 ns ((X f []).take i)).2;have h3:Y ((X f []).take i)≤Y (X f []):=by simp;omega
  have g:=c _ (eF hi);rw[agm hi];generalize w:((X f []).take i).flatMap (kN ns)=out at *;unfold EZ pF bJ aX aM au ah al ay aH aA bv;simp only[];rw[nC hi,cW hi,eh (by omega)];show aq (J (fk (X f [])[i])) _=_;rw[aG,cw];by_cases hk:fk (X f [])[i]=W;let⟨k,q,h,r⟩:=agl (X f [])[i].2.2 ns 0 (g hk);rw[wZ]at q;have b:k<Y ns:=(iO.1 h).1;have a:bR (EY f o t (aT out,(i:L))) 0=J (out++[((X f [])[i].1,(X f [])[i].2.1,(k:L)+1)]):=by refine eS (f:=EY f o t (aT out,(i:L))) k (λj=>(j:L)) (λj s=>?_) ?_ (cM (cA (by omega)));have d:j<Y ns:=(by omega);have l:=r j s;rw[eM d]at l;have p:(ns[j]==(X f [])[i].2.2)=I:=(by grind);unfold EY cJ aM au ah al ay aH aA bv;rw[m,n,aF (by simp[e];omega),aF (by simp;omega),cW d];grind [cf];rw[eM b]at h;have p:(ns[k]==(X f [])[i].2.2)=W:=(by simpa using h);unfold EY cJ aM au ah al ay aH aA bv;rw[m,n,aF (by simp[e];omega),aF (by simp;omega),cW b];simp only[];rw[cW hi,p,aF rfl,cw,aF (by simp[e];omega),fq,agk b]
  grind [aG,kN,jM];grind [kN,jM];unfold EZ bJ aX aM au ah al ay aH aA bv;simp_all
 grind [Li,aG,afa,cw,G8]
def awI{out:M L}{n:L}(h:n∈out)(x:aN):n∈o4 out x:=by grind [o4]
theorem agn:∀(f:M aN){out:M L}{n:L},n∈out→n∈f.foldl o4 out|[],_,_,h=>h|x::f,_,_,h=>agn f (awI h x)
def ago:∀(f:M aN)(out:M L),∀x∈f,fk x=W→x.2.2∈f.foldl o4 out
 |y::f,out,x,h,hk=>by
  rcases jQ.1 h with rfl|h
  grind [agn,o4];exact ago f (o4 out y) x h hk
def VJ(f:M aN):M aN:=dq (f.flatMap (kN (kz f)))
def awJ{o:Q (M aN)}(b:bm (X o [])≤536870912):L7 o=J (aT (VJ (X o []))):=by
 have c:=eT (X o []);have hn:=Nx (X o []) [];unfold L7 al;rw[awA (by omega),aG,cw];show aq (FU ((Y (kz (X o [])):U):L)) _=_;have a:Y (kz (X o []))≤1073741824:=by grind [kz]
 rw[awD a,aG,awG b a (cw _) rfl];rfl
def awK{o:Q (M aN)}(b:bm (X o [])≤536870912):Lj o=J (aT (VJ (X o []))):=by
 have d:=eT (X o []);have hn:=Nx (X o []) [];unfold Lj al;rw[awC (by omega),aG,cw];show aq (E2 ((Y (kz (X o [])):U):L)) _=_;have a:Y (kz (X o []))≤1073741824:=by grind [kz]
 rw[awE a,aG,awH b a (cw _) (cw _) λx c hk=>ago _ [] x c hk];rfl
def zu{σ ρ a:Type}{F:σ→Option (σ⊕ρ⊕a)}(n:Nat)(st:Nat→σ)(bad:Nat→Option ρ)(z:a) (step:∀i,i<n→(∀j,j<i→bad j=O)→F (st i)=match bad i with|some r=>J (.inr (.inl r))|none=>J (.inl (st (i+1)))) (stop:(∀j,j<n→bad j=O)→F (st n)=J (.inr (.inr z)))(hn:n<fuel):bR F (st 0)=J (match gv bad 0 n with|some r=>.inl r|none=>.inr z):=by
 have key:∀(k i m:Nat),i+k=n→k<m→(∀j,j<i→bad j=O)→eD F m (st i)=J (match gv bad i k with|some r=>.inl r|none=>.inr z):=by
  intro k;induction k with
  |zero=>intro i m hi c b;obtain⟨m,rfl⟩:∃q,m=q+1:=⟨m-1,by omega⟩;obtain rfl:i=n:=(by omega);unfold eD;rw[stop b];rfl
  |succ k e=>intro i m hi c b;obtain⟨m,rfl⟩:∃q,m=q+1:=⟨m-1,by omega⟩;unfold eD gv;grind
 exact key n 0 fuel (by omega) hn (λj d=>cO d (Nat.not_lt_zero _))
def awL{f:List aN}(h:jB f=0):Y f≤512∧cx f≤1024∧∀i(hi:i<Y f),mS (f.take i) f[i]=0:=by grind [jB,wD,B4]
theorem awM{s:List UInt8}(h:iG s=W):Y s≤24:=by simp_all [iG]
theorem awN{s:List UInt8}(h:oX s=W):Y s≤64:=by simp_all [oX]
theorem awO{b:List aN}{x:aN}(h:mS b x=0):Y x.2.1+1≤wid x+65∧∀fmt,Y (i6 fmt x)≤5*wid x+67:=by grind [mS,awM,awN,wid,i6,zt]
theorem sy{f:List aN}(h:jB f=0):bm f≤34304∧∀fmt,Y (f.flatMap (i6 fmt))≤39424:=by
 let⟨h1,h2,h3⟩:=awL h;have key:∀k,k≤Y f→bm (f.take k)≤cx (f.take k)+65*k∧∀fmt,Y ((f.take k).flatMap (i6 fmt))≤5*cx (f.take k)+67*k:=by
  intro k;induction k with|zero=>simp_all [bm]|succ k a=>grind [awO,GU,List.take_succ_eq_append_getElem,bm]
 grind [List.take_length]
section
variable(rs:List (Int×Int))(ts:List (Option (List aN)))(cs:List Nat)(raw:List UInt8)(f:List aN)(fmt:Int)
def gw:Nat→Int|0=>0|i+1=>(H rs i (0,0)).2
def mT:Nat→Int|0=>0|i+1=>((H cs (G (H rs i (0,0)).2) 0:Nat):Int)
def lN(i:Nat):List aN:=X (H ts i O) []
def sS:Nat→List UInt8|0=>[]|i+1=>sS i++(bu (mT rs cs i) ((H cs (G (H rs i (0,0)).1) 0:Nat):Int) raw++(iN fmt (lN ts i)).1)
def wS:Nat→List aN|0=>[]|i+1=>dq (dq (wS i++(X (ib f (gw rs i) (H rs i (0,0)).1).1 []))++lN ts i)
def Cc(i:Nat):az:=decide (gw rs i≤(H rs i (0,0)).1∧(H rs i (0,0)).1≤(H rs i (0,0)).2∧(H rs i (0,0)).2≤cx f)
def zw:az:= !(List.range (Y rs)).any λi=> !Cc rs f i
end
def iH{α:Type}{l:List α}{i:Nat}{d:α}(h:i<Y l):H l i d=l[i]:=by grind
theorem Nz(rs:List (Int×Int))(i:Nat):gw rs (i+1)=(H rs i (0,0)).2:=rfl
def awP{o:Option (List (Int×Int))}(a:Y (X o [])≤1073741824)(f:List aN):LR o (cx f:Int)=J (zw (X o []) f):=by
 unfold LR aX;have:=wO (F:=LQ o (cx f:Int)) (Y (X o [])) (λi=>(gw (X o []) i,(i:Int))) (λi=> !Cc (X o []) f i) I () (λi hi=>by
  have b:=di (i:=i) (by omega)
  unfold LQ bJ aM ah al ay aH aA;dsimp-proj only[aj]
  simp only[]
  rw[dQ hi,aF (dA hi)]
  grind [Cc,gw]) (by
  unfold LQ bJ aM ah al ay aH aA;dsimp-proj only[aj]
  simp_all) (Nat.lt_of_succ_lt (cA (by omega)))
 rw[show((0,0):Int×Int)=(gw (X o []) 0,((0:Nat):Int))from rfl,this,aG];unfold zw;split;rename_i h;rw[h];rfl;simp_all
def awQ{o:Option (List (Int×Int))}(a:Y (X o [])≤1073741824){g:Option (List aN)}(b:bm (X g [])≤1073741824)(e:Int):bR (E4 o (g,e)) (0,0)=J (if zw (X o []) (X g [])=W then .inr ()else .inl (1,0,O)):=by
 have:=wO (F:=E4 o (g,e)) (Y (X o [])) (λi=>(gw (X o []) i,(i:Int))) (λi=> !Cc (X o []) (X g []) i) (1,0,O) () (λi hi=>by
  have c:=di (i:=i) (by omega)
  unfold E4 bJ aM aK al ay aH aA;dsimp-proj only[aj]
  simp only[]
  rw[dQ hi,aF (dA hi)]
  unfold Cc
  grind [aG,sq,gw]) (by
  unfold E4 bJ aM aK al ay aH aA;dsimp-proj only[aj]
  simp_all) (Nat.lt_of_succ_lt (cA (by omega)))
 grind [gw,zw]
end Go.Fd
