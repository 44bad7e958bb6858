/- The statement ExportSpansUptoCardSaid of the given program is proved here: for every input whose bulk is at most the bound of its row, the law returns true and changes nothing. Part 7 of 7. -/
import Derived.Test.YtgbmhohlapmgbaaGreatDoorProg
import Derived.KernelRfl
import Derived.Shelf.Strings.Builder1
import Derived.Shelf.Strings.Search3
import Derived.Shelf.LaysM
import Derived.Shelf.Strconv.Itoa3
import Derived.Shelf.Strings.SlTrimAscii
import Derived.Shelf.Sort.Plain
import Derived.Shelf.Slices.In.SortNone
import Derived.Shelf.Strings.Count
import Derived.WalkKit
import Derived.BigCall
import Derived.Lib.Bytealg
import Derived.Laws.Externs
import Derived.Laws.MakeOwn
import Derived.Laws.OwnMore
import Derived.Deep.WholeRow
import Derived.Lib.BufferMore
import Derived.Laws.IdiomStrings
import Derived.Lib.ConvBytes
import Derived.RegionTactic
import Derived.Lib.LazyBuf
import Derived.ChangeAlike
import Derived.Defers
import Derived.Laws.Pointers
import Derived.Laws.LoneSync
import Derived.RegionCalls
import Derived.Laws.NewBlocks
import Derived.Handy
import Derived.Maps.OwnRows
import Derived.Maps.Views
import Derived.BigRegion
import Derived.Deep.RegionWith
import Derived.Test.YtgbmhohlapmgbaaGreatDoorCards
import Derived.Test.YtgbmhohlapmgbaaGreatDoorTie
import Derived.Deep.DeepHandedRow
import Derived.MakeChecks
import Derived.Test.YtgbmhohlapmgbaaGreatDoorS6
set_option linter.unusedVariables false
set_option linter.unusedSimpArgs false
set_option linter.unusedSectionVars false
set_option linter.constructorNameAsVariable false
set_option linter.defProp false
open Array renaming getD_eq_getD_getElem?->Hq,getElem?_eq_some_iff->pR,getElem?_push_size->Ob,getElem?_setIfInBounds_ne->N9,getElem?_setIfInBounds_self_of_lt->ayO,getElem?_toList->qV,toList->T
open Bool renaming and_eq_true->ck,false->I,or_eq_true->qY,true->W
open ByteArray renaming getElem_eq_getElem_data->ayR,mk->lP,size->Cm
open Eq renaming trans->ab0
open Go renaming Addr->ey,Calls->ez,DataW->jo,FuncId->dT,TypeId->bq,Value->aJ,World->bZ,run_convert_to_unsafe->ayS,run_neq_slice_nil->WG,run_underlying->lh
open Go.Addr renaming block->ac6
open Go.Builtin renaming nextslicecap->zK
open Go.Extern.AbiNoEscape renaming same->aAf
open Go.Extern.BytealgIndexByte renaming indexByte->aAg
open Go.Instr renaming lookup->wV
open Go.IntKind renaming i64->a7,signed->Hs
open Go.Lib renaming BuilderAt->WB,IsBuilder->xa,alloc_old->HL,byteCells->N6,bytesWorld->WF,bytesWorld_at_old->ayN,cell_of_heap->WC,fresh_isBuilder->ayL,indexByte->fm
open Go.Lit renaming int->rb
open Go.Maps renaming keyOf_int_mk->ayW
open Go.Obj renaming cells->o9,map->Cw
open Go.Oper renaming upon_value->o7
open Go.Program renaming underlying->acK
open Go.Proofs renaming intOf->Ct
open Go.Proofs.Tryz renaming checked->HS,f5->gQ,func5->ahW,prog->be,t9->ayV,underlying130->WH,underlying131->WI,underlying134->Wz,underlying135->pU,underlying251->WA,underlying3->w8,underlying375->ayT,underlying5->w9,underlying9->uw,zeroCells342->Cu
open Go.Proofs.YtgbmhohlapmgbaaGreatDoor.Rows renaming exportSpansSpec->lj,exportSpansUptoRow->fH,uptoBulk->rf,uptoBulkAll->HR
open Go.Proofs.YtgbmhohlapmgbaaGreatDoor.Rows.OpenSpec renaming upto->ig
open Go.Proofs.YtgbmhohlapmgbaaGreatDoor.Tryz renaming pinned->kP
open Go.Result renaming andThen->pV,andThen_ok->dF
open Go.RowKit renaming Below->c7
open Go.RowKit.Below renaming heap_alloc->HM,refl->m9,alloc->adM,block->ady,size->adY,trans->ad3
open Go.Sem renaming run_bind->dC,run_pure->fF
open Go.Shelf renaming Ren->HK
open Go.Sort renaming ahead->N7
open Go.Value renaming int->nS,ownBlock->N8,slice->sD,string->N4,ownBlock->acg
open Go.World renaming cell?->er,cell?_alloc_past->Oc,cell?_setCell_other->ayU,frozen?->na,grownBy_alloc->HN,holding->WJ,size_setCell->Oa,alloc->ac2,cell?->ve,frozen?->adB,ownsRow->adK,setCell->acV
open Int renaming eq_ofNat_of_zero_le->nW,toNat->G
open List renaming all_eq_true->gy,concat_eq_append->ayM,flatMap_append->xb,forall_mem_cons->gC,getD_eq_getElem?_getD->jP,getElem?_append_left->pS,getElem?_append_right->Co,getElem?_eq_getElem->eM,getElem?_eq_some_iff->iO,getElem?_map->iQ,getElem?_toArray->HA,length->wX,length_append->lg,length_map->kE,map->jq,map_append->mj,map_cons->eU,mem_cons->jQ,mem_iff_getElem->ayQ,mem_map->mh,mem_of_find?_eq_some->ayP,mem_of_getElem?->fK,mem_singleton->m7,nodup_cons->wW,range->iz,range_succ->xc,replicate->ep,take_add_one->WD,take_append_drop->nQ,take_length->ur,take_of_length_le->ahH,getD->H,length->Y,toArray->abf
open List.cons renaming injEq->zJ
open Nat renaming ble->gN,le_of_ble_eq_true->wY,le_refl->dR,le_succ->ahQ,le_trans->uy,lt_of_lt_of_le->pW,lt_or_ge->js,zero_le->fV
open Option renaming getD->WE,getD_some->fL,map_eq_some_iff->pT,none->O,some->J,getD->X
open Option.some renaming inj->ra,injEq->nU
open _root_ renaming Array->bW,Bool->az,ByteArray->nT,Int->L,List->M,Nat->U,Option->Q,UInt8->ao,absurd->cO,beq_iff_eq->dL,congrArg->bX,decide_eq_true_eq->eY,if_neg->aV,if_pos->aF,of_decide_eq_true->jr
namespace Go.Proofs.YtgbmhohlapmgbaaGreatDoor.vd
noncomputable section
open Go Go.Vs Go.Ve
abbrev jk:Ty:=(.bG (.int .i64) (.int .i64))
abbrev bo:Ty:=(.bG (.int .i64) (.bG .bh (.int .i64)))
abbrev nI:Ty:=(.sl bo)
abbrev MK:Ty:=(.bG (.int .i64) .bool)
abbrev aod:Ty:=(.bG (.int .i64) (.bG nI (.bG .bh MK)))
abbrev aoe:Ty:=(.bG jk aod)
abbrev aof:Ty:=(.bG (.int .i64) aoe)
abbrev aog:Ty:=(.bG (.int .i64) aof)
abbrev fj:Ty:=(.bG (.int .i64) aog)
abbrev aoh:Ty:=(.bG (.int .u8) (.bG (.int .u8) (.int .u8)))
abbrev aoi:Ty:=(.bG (.int .u8) aoh)
abbrev aoj:Ty:=(.bG (.int .u8) aoi)
abbrev aok:Ty:=(.bG (.int .u8) aoj)
abbrev aol:Ty:=(.bG (.int .u8) aok)
abbrev aom:Ty:=(.bG (.int .u8) aol)
abbrev aon:Ty:=(.bG (.int .u8) aom)
abbrev aoo:Ty:=(.bG (.int .u8) aon)
abbrev aop:Ty:=(.bG (.int .u8) aoo)
abbrev aoq:Ty:=(.bG (.int .u8) aop)
abbrev aor:Ty:=(.bG (.int .u8) aoq)
abbrev aos:Ty:=(.bG (.int .u8) aor)
abbrev aot:Ty:=(.bG (.int .u8) aos)
abbrev aou:Ty:=(.bG (.int .u8) aot)
abbrev aov:Ty:=(.bG (.int .u8) aou)
abbrev aow:Ty:=(.bG (.int .u8) aov)
abbrev aox:Ty:=(.bG (.int .u8) aow)
abbrev aoy:Ty:=(.bG (.int .u8) aox)
abbrev aoz:Ty:=(.bG (.int .u8) aoy)
abbrev aoA:Ty:=(.bG (.int .u8) aoz)
abbrev aoB:Ty:=(.bG (.int .u8) aoA)
abbrev aoC:Ty:=(.bG (.int .u8) aoB)
abbrev aoD:Ty:=(.bG (.int .u8) aoC)
abbrev aoE:Ty:=(.bG (.int .u8) aoD)
abbrev aoF:Ty:=(.bG (.int .u8) aoE)
abbrev aoG:Ty:=(.bG (.int .u8) aoF)
abbrev aoH:Ty:=(.bG (.int .u8) aoG)
abbrev ty9:Ty:=(.bG (.int .u8) aoH)
abbrev ty8:Ty:=(.bG (.int .u8) ty9)
abbrev S1:Ty:=(.bG (.int .u8) ty8)
abbrev dx:Ty:=(.bG .bool (.bG .bh .bh))
abbrev dS:Ty:=(.bG (.int .i64) (.sl dx))
abbrev fS:Ty:=(.bG (.sl dS) (.bG (.sl fj) (.int .i64)))
abbrev wy:Ty:=(.bG S1 MK)
abbrev ze:Ty:=(.bG .bool (.bG (.sl wy) (.sl wy)))
abbrev Gg:Ty:=(.sl (.int .i64))
abbrev qG:Ty:=(.bG Gg (.int .i64))
abbrev oR:Ty:=(.cb W jk nI)
abbrev nJ:Ty:=(.bG (.int .i64) jk)
abbrev S2:Ty:=(.bG nI (.bG (.sl (.int .u8)) Gg))
abbrev Gh:Ty:=(.cb I bo (.int .i64))
abbrev ML:Ty:=(.cb I (.int .i64) nI)
abbrev acC:Ty:=(.bG .bh (.bG .bh (.bG .bh (.bG .bh .bh))))
abbrev S3:Ty:=(.cb I (.int .i64) (.int .i64))
abbrev acD:Ty:=(.cb I (.int .i64) .bool)
abbrev S6:Ty:=(.set (.int .i64))
open Go.Proofs.Tryz
def T:M (bq×TI):=[(3,⟨1,8,.int .i64,(J [.int .i64 0])⟩),(4,⟨1,1,.bool,(J [.bool I])⟩),(5,⟨1,1,.int .u8,(J [.int .u8 0])⟩),(9,⟨1,16,.bh,(J [.bh []])⟩),(21,⟨1,4,.int .i32,(J [.int .i32 0])⟩),(22,⟨1,24,.slice 3,(J [.nil])⟩),(25,⟨1,24,.slice 48,(J [.nil])⟩),(26,⟨1,24,.slice 44,(J [.nil])⟩),(28,⟨3,56,.struct [(0,25),(1,26),(2,3)],(J [.nil,.nil,.int .i64 0])⟩),(30,⟨1,8,.int .i64,(J [.int .i64 0])⟩),(34,⟨1,24,.slice 39,(J [.nil])⟩),(39,⟨3,24,.struct [(0,3),(1,3),(2,3)],(J [.int .i64 0,.int .i64 0,.int .i64 0])⟩),(41,⟨2,16,.struct [(0,3),(1,3)],(J [.int .i64 0,.int .i64 0])⟩),(42,⟨1,24,.slice 77,(J [.nil])⟩),(44,⟨10,104,.struct [(0,3),(1,3),(2,3),(3,41),(5,3),(6,42),(7,9),(8,3),(9,4)],(J [.int .i64 0,.int .i64 0,.int .i64 0,.int .i64 0,.int .i64 0,.int .i64 0,.nil,.bh [],.int .i64 0,.bool I])⟩),(46,⟨1,24,.slice 59,(J [.nil])⟩),(48,⟨2,32,.struct [(0,3),(1,46)],(J [.int .i64 0,.nil])⟩),(50,⟨1,24,.slice 9,(J [.nil])⟩),(59,⟨3,40,.struct [(0,4),(1,9),(2,9)],(J [.bool I,.bh [],.bh []])⟩),(70,⟨1,24,.slice 22,(J [.nil])⟩),(73,⟨1,24,.slice 120,(J [.nil])⟩),(77,⟨3,32,.struct [(0,3),(1,9),(2,3)],(J [.int .i64 0,.bh [],.int .i64 0])⟩),(79,⟨1,8,.aW 128,(J [.cX .aW])⟩),(81,⟨1,8,.aW 91,(J [.cX .aW])⟩),(86,⟨1,8,.func,(J [.cX .func])⟩),(89,⟨1,8,.map 180 42,(J [.cX .map])⟩),(91,⟨4,64,.struct [(0,28),(3,89)],(J [.nil,.nil,.int .i64 0,.cX .map])⟩),(113,⟨1,24,.slice 41,(J [.nil])⟩),(115,⟨32,32,.array 32 5,(J (ep 32 (.int .u8 0)))⟩),(117,⟨34,48,.struct [(0,115),(32,3),(33,4)],(J [.int .u8 0,.int .u8 0,.int .u8 0,.int .u8 0,.int .u8 0,.int .u8 0,.int .u8 0,.int .u8 0,.int .u8 0,.int .u8 0,.int .u8 0,.int .u8 0,.int .u8 0,.int .u8 0,.int .u8 0,.int .u8 0,.int .u8 0,.int .u8 0,.int .u8 0,.int .u8 0,.int .u8 0,.int .u8 0,.int .u8 0,.int .u8 0,.int .u8 0,.int .u8 0,.int .u8 0,.int .u8 0,.int .u8 0,.int .u8 0,.int .u8 0,.int .u8 0,.int .i64 0,.bool I])⟩),(118,⟨1,24,.slice 117,(J [.nil])⟩),(120,⟨3,56,.struct [(0,4),(1,118),(2,118)],(J [.bool I,.nil,.nil])⟩),(128,⟨2,32,.struct [(0,22),(1,3)],(J [.nil,.int .i64 0])⟩),(130,⟨1,8,.map 3 113,(J [.cX .map])⟩),(131,⟨1,8,.map 3 132,(J [.cX .map])⟩),(132,⟨1,24,.slice 42,(J [.nil])⟩),(134,⟨1,8,.aW 137,(J [.cX .aW])⟩),(135,⟨1,24,.slice 5,(J [.nil])⟩),(137,⟨2,32,.struct [(0,134),(1,135)],(J [.cX .aW,.nil])⟩),(146,⟨1,8,.map 77 3,(J [.cX .map])⟩),(158,⟨1,8,.map 3 4,(J [.cX .map])⟩),(159,⟨1,8,.map 3 3,(J [.cX .map])⟩),(177,⟨1,8,.map 3 42,(J [.cX .map])⟩),(180,⟨2,16,.struct [(0,3),(1,3)],(J [.int .i64 0,.int .i64 0])⟩),(181,⟨1,8,.map 3 183,(J [.cX .map])⟩),(183,⟨0,0,.struct [],(J [])⟩),(190,⟨1,8,.aW 196,(J [.cX .aW])⟩),(194,⟨3,72,.struct [(0,42),(1,135),(2,22)],(J [.nil,.nil,.nil])⟩),(196,⟨5,104,.struct [(0,194),(3,42),(4,3)],(J [.nil,.nil,.nil,.nil,.int .i64 0])⟩),(197,⟨1,8,.aW 201,(J [.cX .aW])⟩),(201,⟨5,88,.struct [(0,194),(3,3),(4,3)],(J [.nil,.nil,.nil,.int .i64 0,.int .i64 0])⟩),(202,⟨1,8,.aW 194,(J [.cX .aW])⟩),(205,⟨1,8,.aW 273,(J [.cX .aW])⟩),(208,⟨1,8,.aW 281,(J [.cX .aW])⟩),(216,⟨1,8,.map 9 4,(J [.cX .map])⟩),(220,⟨1,8,.aW 222,(J [.cX .aW])⟩),(222,⟨6,56,.struct [(0,9),(1,208),(2,3),(3,3),(4,3),(5,3)],(J [.bh [],.cX .aW,.int .i64 0,.int .i64 0,.int .i64 0,.int .i64 0])⟩),(228,⟨1,8,.aW 230,(J [.cX .aW])⟩),(230,⟨3,48,.struct [(0,9),(1,46),(2,3)],(J [.bh [],.nil,.int .i64 0])⟩),(255,⟨1,8,.int .u64,(J [.int .u64 0])⟩),(259,⟨0,0,.struct [],(J [])⟩),(260,⟨0,0,.struct [],(J [])⟩),(261,⟨1,4,.int .u32,(J [.int .u32 0])⟩),(263,⟨1,4,.struct [(0,260),(0,261)],(J [.int .u32 0])⟩),(265,⟨2,8,.struct [(0,21),(1,261)],(J [.int .i32 0,.int .u32 0])⟩),(267,⟨2,8,.struct [(0,259),(0,265)],(J [.int .i32 0,.int .u32 0])⟩),(269,⟨3,12,.struct [(0,259),(0,263),(1,267)],(J [.int .u32 0,.int .i32 0,.int .u32 0])⟩),(271,⟨1,16,.iface,(J [.cX .iface])⟩),(273,⟨5,56,.struct [(0,269),(3,271),(4,50)],(J [.int .u32 0,.int .i32 0,.int .u32 0,.cX .iface,.nil])⟩),(277,⟨5,80,.array 5 9,(J [.bh [],.bh [],.bh [],.bh [],.bh []])⟩),(279,⟨6,96,.array 6 9,(J [.bh [],.bh [],.bh [],.bh [],.bh [],.bh []])⟩),(281,⟨3,48,.struct [(0,9),(1,3),(2,46)],(J [.bh [],.int .i64 0,.nil])⟩),(319,⟨1,24,.slice 4,(J [.nil])⟩)]
def R:M (bq×Ty):=[(3,(.int .i64)),(4,.bool),(5,(.int .u8)),(9,.bh),(21,(.int .i32)),(22,Gg),(25,(.sl dS)),(26,(.sl fj)),(28,fS),(30,(.int .i64)),(34,(.sl nJ)),(39,nJ),(41,jk),(42,nI),(44,fj),(46,(.sl dx)),(48,dS),(50,(.sl .bh)),(59,dx),(70,(.sl Gg)),(73,(.sl ze)),(77,bo),(89,oR),(91,(.bG fS (.sl oR))),(113,(.sl jk)),(115,S1),(117,wy),(118,(.sl wy)),(120,ze),(128,qG),(130,(.cb I (.int .i64) (.sl jk))),(131,(.cb I (.int .i64) (.sl nI))),(132,(.sl nI)),(135,(.sl (.int .u8))),(146,Gh),(158,acD),(159,S3),(177,ML),(180,jk),(181,S6),(194,S2),(196,(.bG S2 (.bG nI (.int .i64)))),(201,(.bG S2 jk)),(216,(.cb I .bh .bool)),(230,(.bG .bh (.bG (.sl dx) (.int .i64)))),(255,(.int .u64)),(261,(.int .u32)),(265,(.bG (.int .i32) (.int .u32))),(277,acC),(279,(.bG .bh acC)),(281,(.bG .bh dS)),(319,(.sl .bool))]
def qH{α:Type}(p:α→Prop):M α→Prop|[]=>True|a::r=>p a∧qH p r
def qH.mem{α:Type}{p:α→Prop}:∀{l:M α},qH p l→∀x∈l,p x|_::_,h,_,.head _=>h.1|_::_,h,_,.tail _ a=>qH.mem h.2 _ a
set_option maxRecDepth 100000 in
def acE{α β:Type}{f g:α→β}:∀{l:M α},l.map f=l.map g→qH (λx=>f x=g x) l|[],_=>trivial|_::_,h=>by simp only[eU,zJ]at h;exact⟨h.1,acE h.2⟩
set_option maxRecDepth 100000 in
def aoK:qH (λx=>kR prog x.1=J x.2) T:=acE (by show T.map _=T.map _;kernel_rfl)
def MM{α:Type}{t:U}{v:α}:∀{l:M (U×α)},lk t l=J v→(t,v)∈l|(u,w)::l,h=>by unfold lk at h;split at h;rename_i e;cases h;subst e;simp;exact List.mem_cons_of_mem _ (MM h)
def EQ:M (bq×M Sc):=[(39,[.int .i64,.int .i64,.int .i64]),(41,[.int .i64,.int .i64]),(59,[.bool,.bh,.bh]),(77,[.int .i64,.bh,.int .i64]),(180,[.int .i64,.int .i64])]
def aoL:qH (λx=>C3 prog x.1 x.2) EQ:=⟨Gf (by kernel_rfl) (by kernel_rfl) (by kernel_rfl) (by kernel_rfl),Gf (by kernel_rfl) (by kernel_rfl) (by kernel_rfl) (by kernel_rfl),Gf (by kernel_rfl) (by kernel_rfl) (by kernel_rfl) (by kernel_rfl),Gf (by kernel_rfl) (by kernel_rfl) (by kernel_rfl) (by kernel_rfl),Gf (by kernel_rfl) (by kernel_rfl) (by kernel_rfl) (by kernel_rfl),trivial⟩
def GT:M (U×M L):=[(1,[1,10,100,1000,10000,100000,1000000,10000000,100000000,1000000000,10000000000,100000000000,1000000000000,10000000000000,100000000000000,1000000000000000,10000000000000000,100000000000000000,1000000000000000000,10000000000000000000])]
set_option maxRecDepth 100000 in
def acF:qH (λx=>(x.1,x.2.map λn=>nS .u64 n)∈ry prog) GT:=⟨fK (i:=0) (by kernel_rfl),trivial⟩
def pJ{af:bM}(h:af.T=T)(a:(af.eqs==[]||af.eqs==EQ)=W)(b:(af.sF==[]||af.sF==GT)=W:=by rfl):ip prog af:=
 ⟨λt i hi=>qH.mem aoK (t,i) (MM (by rw[←h];exact hi)),λt sh c=>by
  rw[qY,dL,dL]at a
  rcases a with a|a
  rw[a]at c;cases c
  rw[a]at c;exact qH.mem aoL (t,sh) (MM c),λg l d=>by
  rw[qY,dL,dL]at b
  rcases b with b|b
  rw[b]at d;cases d
  rw[b]at d;exact qH.mem acF (g,l) (MM d)⟩
def mix:prog.follows .mixedOrders=W:=by kernel_rfl
structure Fx where
 v:List Nat
 r:List Nat
 k:Nat
 b:List aC
 nd:List Nat:=[]
 od:Bool:=true
 bx:Bool:=false
 un:List Nat:=[]
 gt:List (Nat×List Int):=[]
def bt(n:U):M U:=(iz (n.log2+1)).filter n.testBit
def fx(v:U)(r:M U)(k:U)(b:M aC:=[]):Fx:={v:=iz v,r:=r,k:=k,b:=b}
def fy(v:U)(w r:M U)(k:U)(b:M aC:=[]):Fx:={v:=iz v++w,r:=r,k:=k,b:=b}
abbrev sg(a r:M It)(b:M It:=[])(q:M (M (Q Sh)):=[]):bQ:=⟨a,b,r,q,[],I⟩
abbrev u2{α β γ:Type}(f:α→β→γ)(x:α×β):γ:=f x.1 x.2
abbrev u3{α β a δ:Type}(f:α→β→a→δ)(x:α×β×a):δ:=f x.1 x.2.1 x.2.2
abbrev u4{α β a b ε:Type}(f:α→β→a→b→ε)(x:α×β×a×b):ε:=f x.1 x.2.1 x.2.2.1 x.2.2.2
def Fx.F(X:Fx)(fn:Func)(l:M (dT×cU))(s:M (U×dT×cU)):iF:={af:={N:=fn.ntmps,T:=T,R:=R,fD:=λt f=>El t f l s,var:=X.v,res:=X.r,eqs:=EQ,dat:=X.v.filter λu=>gN fn.params.size u&& !X.nd.contains u,nb:=X.od,rk:=X.bx,un:=X.un,sF:=X.gt},keys:=bt X.k,hI:=X.b}
abbrev Bd:={p:dT×cU // dr prog p}
abbrev oI:It:=.one (.i .i64)
abbrev oS:It:=.one .s
abbrev oB:It:=.one .b
abbrev oN:It:=.one (.n .data (.int .i64))
abbrev iI:Sh:=.i .i64
abbrev sI(n:U):Pl:=.a6 n (.i .i64)
def ll(l:M gJ)(n:U):Q gJ:=l[n]?
def gl1(l:M Bd):∀x∈l.map (·.1),dr prog x:=by intro x h;obtain⟨y,_,rfl⟩:=mh.1 h;exact y.2
def gs1(l:M (U×Bd)):∀x∈l.map (λp=>(p.1,p.2.1)),dr prog x.2:=by intro x h;obtain⟨y,_,rfl⟩:=mh.1 h;exact y.2.2
def gd{n:dT}{fn:Func}(c:prog.funcs[n]?=J fn)(S:bQ)(sh:S.X→Q S.Y)(X:Fx)(l:M Bd:=[])(a:U→Q gJ:=λ_=>O)(s:M (U×Bd):=[]) (d:(S.ok&&(Bf fn&& !(fn.name== "runtime.NumGoroutine")&&gN S.args.length fn.ntmps&&(X.gt==[]||X.gt==GT)))=W:=by kernel_rfl) (run:∀x,(mF (S.eQ x) (jT S.aI.length) X.b,rS (X.F fn (l.map (·.1)) (s.map λp=>(p.1,p.2.1))) a fn S x)=(W,sh x):=by intro _;kernel_rfl):Bd:=⟨(n,S.fD (ck _ _▸d:S.ok=W∧_).1 sh),by have e:=d;simp only[ck,Bool.not_eq_true']at e;let⟨h,⟨⟨h1,h2⟩,h3⟩,f⟩:=e;exact tw c h2 h1 (tu (F:=X.F fn (l.map (·.1)) (s.map λp=>(p.1,p.2.1))) (tbl:=a) c h1 mix (anA (l:=l.map (·.1)) (s:=s.map λp=>(p.1,p.2.1)) (pJ rfl (by show(EQ==[]||EQ==EQ)=W;kernel_rfl) f) rfl (gl1 l) (gs1 s)) rfl h (wY h3) (λx=>bX Prod.fst (run x)) λx=>bX Prod.snd (run x))⟩
open Go.Fd
set_option maxRecDepth 100000
def B9:Bd:=gd func9 (sg [.one (.n .data Gg)] [oB]) BR (fx 6 [2] 1005) [] (ll [⟨⟨[3,6,7,8],[],[sI 3,sI 8]⟩,[(.exit 0,⟨[3],[],[sI 3]⟩)],O⟩])
abbrev C9:cU:=B9.1.2
def G9:dr prog (9,C9):=B9.2
def S7:Bd:=gd func69 (sg [oI] [oB]) rX (fx 3 [2] 5)
def MN:Bd:=gd func172 (sg [oS,oS] [oB]) (u2 nE) (fx 5 [4] 19)
def acG:Bd:=gd func173 (sg [oS,oS,oI] [oI]) (u3 tE) (fx 8 [6] 67141831) [] (ll [⟨⟨[0,1,7],[],[sI 7]⟩,[(.ret,⟨[6],[],[sI 6]⟩),(.exit 0,⟨[],[],[]⟩)],O⟩])
def Gi:Bd:=gd func157 (sg [oS] [oB]) rV (fx 5 [2] 8796093091869) [] (ll [⟨⟨[0,3],[],[sI 3]⟩,[(.ret,⟨[2],[],[.a6 2 .b]⟩),(.exit 0,⟨[],[],[]⟩)],O⟩])
def BV:Bd:=gd func55 (sg [oS] [oS]) qA (fx 4 [2] 8333) [] (ll [⟨⟨[0,3],[],[sI 3]⟩,[(.ret,⟨[2],[],[.a6 2 .s]⟩),(.exit 0,⟨[0],[],[]⟩)],O⟩])
def acH:Bd:=gd func158 (sg [oS] [oB]) EB (fx 6 [2] 549755818301) [BV,Gi] (ll [⟨⟨[0,3],[],[sI 3]⟩,[(.ret,⟨[2],[],[.a6 2 .b]⟩),(.exit 0,⟨[0],[],[]⟩)],O⟩])
def acI:Bd:=gd func174 (sg [oS] [.bC bo,oI]) EC (fy 0 [0,1,3,4,5,6,15,20] [2,3] 4503599628452989 [.aw 2]) [acG,MN,Gi,acH]
def S8:Bd:=gd func54 (sg [oS] [oB]) Bp (fx 3 [2] 5)
def S9:Bd:=gd func211 (sg [.one (.i .u8)] [.bC bo]) oM (fx 2 [2] 5 [.aw 2])
def Ta:Bd:=gd func212 (sg [oS] [.bC bo,oI]) Bq (fy 0 [0,1,3,4] [2,3] 8654877 [.aw 2]) [Gi] (ll [⟨⟨[0,2,4],[(.aw 2)],[sI 4]⟩,[(.ret,⟨[2,3],[(.aw 2)],[sI 3,.cell (.aw 2) 0 iI,.cell (.aw 2) 1 .s,.cell (.aw 2) 2 iI]⟩),(.exit 0,⟨[2],[(.aw 2)],[]⟩)],O⟩])
def aoO:Bd:=gd func153 (sg [oS] [.bC bo,oI]) KY (fy 0 [0,1,3,4,5,6,7,8,11,29,50] [2,3] 1130313556168125 [.aw 2,.aw 4]) [acI,BV,S8,MN,S9,Ta] (ll [⟨⟨[0,2,31,32],[(.aw 2)],[sI 32]⟩,[(.ret,⟨[2,3],[(.aw 2)],[sI 3,.cell (.aw 2) 0 iI,.cell (.aw 2) 1 .s,.cell (.aw 2) 2 iI]⟩),(.exit 1,⟨[2],[(.aw 2)],[]⟩)],O⟩])
def aoP:Bd:=gd func154 (sg [oS] [.bC bo,oI]) vZ (fy 0 [0,1,3,4,5,6,9,12,18] [2,3] 72058148210611053 [.aw 2]) [Ta,S9] (ll [⟨⟨[0,2,24,25],[(.aw 2)],[sI 25]⟩,[(.ret,⟨[2,3],[(.aw 2)],[sI 3,.cell (.aw 2) 0 iI,.cell (.aw 2) 1 .s,.cell (.aw 2) 2 iI]⟩),(.exit 1,⟨[0,2],[(.aw 2)],[]⟩)],O⟩,⟨⟨[0,2,6],[(.aw 2)],[sI 6]⟩,[(.exit 3,⟨[2,6],[(.aw 2)],[sI 6]⟩)],O⟩])
def aoQ:Bd:=gd func155 (sg [oS] [.bC bo,oI]) K0 (fy 0 [0,1,3,6,12] [2,3] 37485 [.aw 2]) [MN,S9,Ta]
def aoR:Bd:=gd func100 (sg [oI,oS] [.bC bo,oI]) (u2 rW) (fy 4 [5,7,13] [4,5] 8435 [.aw 4]) [aoO,aoP,aoQ]
def acJ:Bd:=gd func156 (sg [.one (.n .data bo)] [.one (.n .data bo)]) Ez (fx 7 [2] 274911725437 [.aw 5]) [] (ll [⟨⟨[0,3,8,9],[],[.a6 3 (.n .ak bo),sI 9]⟩,[(.exit 0,⟨[3],[],[.a6 3 (.n .ak bo)]⟩)],O⟩])
def MO:Bd:=gd func101 (sg [.one (.n .data bo),.one (.n .data bo)] [.one (.n .data bo)]) (u2 lK) (fx 5 [4] 19) [acJ]
def BW:Bd:=gd func51 (sg [oI,oS] [.one (.n .data bo),oN,oI,oI]) (u2 gW) (fy 18 [41,48] [4,5,6,7] 162261907451833738597619611205619 [.aw 14]) [aoR,BV,MO] (ll [⟨⟨(bt 16131),[],[.a6 8 (.n .data bo),.a6 9 (.n .ak bo),.a6 10 (.n .ak (.int .i64)),sI 11,sI 12,sI 13]⟩,[(.ret,⟨[4,5,6,7],[],[.a6 4 (.n .data bo),.a6 5 (.n .data (.int .i64)),sI 6,sI 7]⟩),(.exit 0,⟨(bt 5890),[],[.a6 8 (.n .data bo),.a6 9 (.n .ak bo),.a6 10 (.n .ak (.int .i64)),sI 12]⟩)],O⟩])
def aoS:Bd:=gd func223 (sg [oI] [oS]) EH (fx 4 [2] 32781) [] (ll [⟨⟨[0,3],[],[sI 0,.a6 3 .s]⟩,[(.ret,⟨[2],[],[.a6 2 .s]⟩)],O⟩])
def Tb:Bd:=gd func176 (sg [oI] [oS]) yK (fx 3 [2] 261) [aoS]
def Tc:Bd:=gd func175 (sg [.aW (.aB 0) 0,oS,oI,oI] [] [.cells [.s,.n .ak dx,.i .i64]] [[J .s,J (.n .ak dx),J iI]]) (u4 tG) (fx 8 [] 15 [.aB 0])
def Td:Bd:=gd func177 (sg [.aW (.aB 0) 0] [.one (.n .data dx)] [.cells [.s,.n .ak dx,.i .i64]] [[J .s,J .dd,J iI]]) tF (fx 3 [2] 5 [.aB 0])
def aoT:Bd:=gd func113 (sg [oS] [.one (.n .data dx),oI,oI]) Br (fx 18 [2,3,4] 1287460059898249709024681607165 [.aw 9,.aw 20]) [MN,acG,acI,BV,S8,BW,Tb,Tc,Td] (ll [⟨⟨[0,5,6,7],[(.aw 20)],[sI 6,sI 7,.cell (.aw 20) 0 .s,.cell (.aw 20) 1 (.n .ak dx),.cell (.aw 20) 2 iI]⟩,[(.ret,⟨[2,3,4],[],[.a6 2 (.n .data dx),sI 3,sI 4]⟩),(.exit 0,⟨[5],[(.aw 20)],[.cell (.aw 20) 0 .s,.cell (.aw 20) 1 (.n .ak dx),.cell (.aw 20) 2 iI]⟩)],O⟩])
def aoU:Bd:=gd func178 (sg [oS,oI,oB] [oI]) (u3 tH) (fx 7 [6] 8454215) [] (ll [⟨⟨[0,1,2],[],[sI 1]⟩,[(.exit 0,⟨[0,1],[],[sI 1]⟩)],O⟩])
def aoV:Bd:=gd func179 (sg [.one (.i .u8)] [oB]) K3 (fx 3 [2] 5)
def aoW:Bd:=gd func180 (sg [.one (.n .ak dx),oS] [oB]) (u2 K2) (fx 6 [4] 16778163) [] (ll [⟨⟨[0,1,7,8],[],[sI 8]⟩,[(.ret,⟨[4],[],[.a6 4 .b]⟩),(.exit 0,⟨[],[],[]⟩)],O⟩])
def aoX:Bd:=gd func114 (sg [oS] [.one (.n .data dx),oI,oI]) Bs (fy 0 [0,2,3,4,5,6,7,8,9,10,11,12,13] [2,3,4] 5316932275452863015468449236348056573 [.aw 16]) [aoU,aoV,aoW,BW,Tc,Td] (ll [⟨⟨[0,5,6],[(.aw 16)],[sI 6,.cell (.aw 16) 0 .s,.cell (.aw 16) 1 (.n .ak dx),.cell (.aw 16) 2 iI]⟩,[(.ret,⟨[2,3,4],[],[.a6 2 (.n .data dx),sI 3,sI 4]⟩),(.exit 0,⟨[5],[(.aw 16)],[.cell (.aw 16) 0 .s,.cell (.aw 16) 1 (.n .ak dx),.cell (.aw 16) 2 iI]⟩)],O⟩,⟨⟨[0,5,6,7],[(.aw 16)],[sI 7]⟩,[(.exit 2,⟨[0,5,6,7],[(.aw 16)],[sI 7]⟩)],O⟩,⟨⟨[0,5,6,7],[(.aw 16)],[sI 7]⟩,[(.exit 4,⟨[0,5,6,7],[(.aw 16)],[sI 7]⟩)],O⟩])
def aoY:Bd:=gd func181 (sg [oS,oI] [oI,oB,oB]) (u2 K6) (fx 9 [4,5,6] 4835703567885161502605811) [] (ll [⟨⟨[0,7,8],[],[sI 8]⟩,[(.exit 0,⟨[0,7,8],[],[sI 8]⟩)],O⟩,⟨⟨[0,7,8],[],[sI 8]⟩,[(.exit 2,⟨[0,7,8],[],[sI 8]⟩)],O⟩])
def aoZ:Bd:=gd func115 (sg [oS] [.one (.n .data dx),oI,oI]) Bt (fy 0 [0,2,3,4,5,6,7,8,9,10,11,12,13,14,15,16,17,18,19] [2,3,4] 5892467705334340315318706939473420943357 [.aw 22]) [aoY,BW,Tb,Tc,Td] (ll [⟨⟨(bt 993),[(.aw 22)],[sI 6,sI 7,sI 8,sI 9,.cell (.aw 22) 0 .s,.cell (.aw 22) 1 (.n .ak dx),.cell (.aw 22) 2 iI]⟩,[(.ret,⟨[2,3,4],[],[.a6 2 (.n .data dx),sI 3,sI 4]⟩),(.exit 0,⟨[5],[(.aw 22)],[.cell (.aw 22) 0 .s,.cell (.aw 22) 1 (.n .ak dx),.cell (.aw 22) 2 iI]⟩)],O⟩,⟨⟨(bt 8161),[(.aw 22)],[sI 6,sI 8,sI 11,sI 12,.cell (.aw 22) 0 .s,.cell (.aw 22) 1 (.n .ak dx),.cell (.aw 22) 2 iI]⟩,[(.ret,⟨[2,3,4],[],[.a6 2 (.n .data dx),sI 3,sI 4]⟩),(.exit 2,⟨(bt 8161),[(.aw 22)],[sI 6,sI 8,sI 11,sI 12,.cell (.aw 22) 0 .s,.cell (.aw 22) 1 (.n .ak dx),.cell (.aw 22) 2 iI]⟩)],O⟩])
def B70:Bd:=gd func70 (sg [oI,oS] [.one (.n .data dx),oI,oI]) (u2 K7) (fy 7 [11,18] [4,5,6] 265843) [aoT,aoX,aoZ]
def Te:Bd:=gd func35 (sg [oI,oS] [.bC dS,oI,oI]) (u2 qB) (fy 4 [5,6,7,8,9] [4,5,6] 4199411 [.aw 4]) [S7,B70]
def B37:Bd:=gd func37 (sg [] [.one (.n .ak ze)]) (λ_=>yD) ({fx 3 [0] 7 [.aw 1,.aw 2]with od:=I})
def MP:Bd:=gd func19 (sg [.bC dS] [oS]) yJ (fx 5 [2] 927 [.aw 1]) [] (ll [⟨⟨[1,3,7,8],[(.aw 1)],[.a6 3 .s,sI 8]⟩,[(.exit 0,⟨[3],[],[.a6 3 .s]⟩)],O⟩])
def ao1:Bd:=gd func182 (sg [.one (.n .data dx),.one (.n .data dx)] [oB]) (u2 K8) (fx 6 [4] 16806963) [] (ll [⟨⟨[0,1,12,13],[],[sI 13]⟩,[(.ret,⟨[4],[],[.a6 4 .b]⟩),(.exit 0,⟨[],[],[]⟩)],O⟩])
def ao2:Bd:=gd func116 (sg [.bC dS,.bC dS] [oB]) (u2 Sk) (fx 5 [4] 31 [.aw 2,.aw 3]) [ao1]
def Tf:Bd:=gd func71 (sg [.bC dS] [oI]) tJ (fx 6 [2] 67109423 [.aw 1,.aw 3]) [S7,MP,Te,ao2]
def Tg:Bd:=gd func72 (sg [.bC dS] [oN]) EE (fx 5 [2] 66463 [.aw 1]) [] (ll [⟨⟨[1,3,7,8],[(.aw 1)],[.a6 3 (.n .ak (.int .i64)),sI 8]⟩,[(.exit 0,⟨[3],[],[.a6 3 (.n .ak (.int .i64))]⟩)],O⟩])
def Gj:Bd:=gd func73 (sg [.bC dS,oI] [.one (.n .data bo),oI]) (u2 mf) (fx 10 [4,5] 2147492471 [.aw 2]) [S7,BW]
def acL:Bd:=gd func117 (sg [.one (.n .data bo)] [oS]) vW (fx 5 [2] 268468701) [] (ll [⟨⟨[0,3,6,7],[],[.a6 3 .s,sI 7]⟩,[(.exit 0,⟨[3],[],[.a6 3 .s]⟩)],O⟩])
def aps:Bd:=gd func294 (sg [oS] [.one (.n .data .bool)]) Se (fx 4 [2] 13)
def wA:Bd:=gd func102 (sg [.one (.n .data bo)] [oI]) nD (fx 5 [2] 33245) [] (ll [⟨⟨[0,3,6,7],[],[sI 3,sI 7]⟩,[(.exit 0,⟨[3],[],[sI 3]⟩)],O⟩])
def wB:Bd:=gd func120 (sg [.one (.n .data bo),oI,oI] [.one (.n .data bo),oB]) (u3 mM) (fx 14 [6,7] 590295881004273909703 [.aw 11]) [wA] (ll [⟨⟨[0,1,2,8,9,28,29],[],[.a6 8 (.n .ak bo),sI 9,sI 29]⟩,[(.exit 0,⟨[8],[],[.a6 8 (.n .ak bo)]⟩)],O⟩])
def apx:Bd:=gd func119 (sg [.one (.n .data bo),oI] [oI]) (u2 KS) (fx 11 [4] 288231613119595251) [acL,wA,wB] (ll [⟨⟨[0,1,5,6],[],[sI 6]⟩,[(.ret,⟨[4],[],[sI 4]⟩),(.exit 0,⟨[],[],[]⟩)],O⟩,⟨⟨[0,5,6],[],[sI 6]⟩,[(.exit 2,⟨[6],[],[sI 6]⟩)],O⟩])
def acU:Bd:=gd func184 (sg [.one (.i .u8)] [oI]) yE (fy 4 [18,25,32] [2] 4328783885)
def apy:Bd:=gd func121 (sg [oS] [oI,oI]) Er (fx 6 [2,3] 272760893) [acU] (ll [⟨⟨[0,4,5],[],[sI 4]⟩,[(.exit 0,⟨[0,4,5],[],[sI 4]⟩)],O⟩,⟨⟨[0,4,5],[],[sI 5]⟩,[(.exit 2,⟨[4,5],[],[sI 5]⟩)],O⟩])
def apz:Bd:=gd func122 (sg [.one (.n .data bo),oI] [oB]) (u2 yG) (fx 7 [4] 115) [wB,acU]
def Ti:Bd:=gd func22 (sg [.bC fS,oI] [oI]) (u2 yO) (fx 7 [4] 266103 [.aw 2,.aw 6]) [] (ll [⟨⟨[1,8,9,10],[],[sI 10]⟩,[(.ret,⟨[4],[],[sI 4]⟩),(.exit 0,⟨[],[],[]⟩)],O⟩])
def Tj:Bd:=gd func76 (sg [.bC fS,oI] [.one (.n .data bo)]) (u2 v7) (fx 10 [4] 375 [.aw 2,.aw 5]) [Gj,wB]
def apB:Bd:=gd func123 (sg [.bC fj] [oB]) Lc (fy 3 [5,21,31,41] [2] 2201172836407 [.aw 1]) [Gi]
def B0:Bd:=gd func53 (sg [.bC bo] [oB]) pF (fx 3 [2] 7 [.aw 1])
abbrev Tk:cU:=B0.1.2
def G53:dr prog (53,Tk):=B0.2
def apD:Bd:=gd func103 (sg [.one (.n .data bo),.bC bo] [oI]) (u2 Lf) (fy 7 [9,34,45,62] [4] 5192376091079704906552950600500091 [.aw 3,.aw 6]) [Gi,acH,B0,BV] (ll [⟨⟨[0,3,79,80],[(.aw 3)],[sI 80]⟩,[(.ret,⟨[4],[],[sI 4]⟩),(.exit 1,⟨[],[],[]⟩)],O⟩])
def Tl:Bd:=gd func52 (sg [.one (.n .data bo)] [oI]) Bw (fx 5 [2] 134336541) [wA,apD] (ll [⟨⟨[0,14,15],[],[sI 15]⟩,[(.ret,⟨[2],[],[sI 2]⟩),(.exit 0,⟨[],[],[]⟩)],O⟩])
def apE:Bd:=gd func185 (sg [.one (.n .data bo)] [oN,oN,oB]) EN (fy 9 [19,29,33,44] [2,3,4] 17601313644029) [] (ll [⟨⟨(bt 3169),[],[.a6 5 (.n .ak (.int .i64)),.a6 6 (.n .ak (.int .i64)),sI 11]⟩,[(.ret,⟨[2,3,4],[],[.a6 2 (.n .data (.int .i64)),.a6 3 (.n .data (.int .i64)),.a6 4 .b]⟩),(.exit 0,⟨[5,6],[],[.a6 5 (.n .ak (.int .i64)),.a6 6 (.n .ak (.int .i64))]⟩)],O⟩])
def B32:Bd:=gd func32 (sg [oN,oN] [oB]) (u2 Bv) (fx 6 [4] 16806963) [] (ll [⟨⟨[0,1,12,13],[],[sI 13]⟩,[(.ret,⟨[4],[],[.a6 4 .b]⟩),(.exit 0,⟨[],[],[]⟩)],O⟩])
def apF:Bd:=gd func226 (sg [.one (.n .data .bh),oS] [.one (.n .data .bh)]) (u2 Le) (fx 7 [4] 262259) [] (ll [⟨⟨[0,1,5],[],[sI 5]⟩,[(.exit 0,⟨[0,1,5],[],[sI 5]⟩)],O⟩])
def apG:Bd:=gd func186 (sg [.one (.n .data bo)] [.one (.n .data .bh)]) ER (fx 5 [2] 33245) [apF] (ll [⟨⟨[0,3,6,7],[],[.a6 3 (.n .data .bh),sI 7]⟩,[(.exit 0,⟨[3],[],[.a6 3 (.n .data .bh)]⟩)],O⟩])
def B20:Bd:=gd func20 (sg [.one (.n .data .bh),.one (.n .data .bh)] [oB]) (u2 Ld) (fx 6 [4] 16806963) [] (ll [⟨⟨[0,1,12,13],[],[sI 13]⟩,[(.ret,⟨[4],[],[.a6 4 .b]⟩),(.exit 0,⟨[],[],[]⟩)],O⟩])
def apI:Bd:=gd func187 (sg [.one (.n .data bo)] [.one (.n .data bo)]) ET (fx 5 [2] 16861) [B0] (ll [⟨⟨[0,3,6,7],[],[.a6 3 (.n .ak bo),sI 7]⟩,[(.exit 0,⟨[3],[],[.a6 3 (.n .ak bo)]⟩)],O⟩])
def apJ:Bd:=gd func188 (sg [.one (.n .data bo),.bC bo] [oI]) (u2 EV) (fx 7 [4] 132987 [.aw 3]) [] (ll [⟨⟨[0,3,5,8,9],[(.aw 3)],[sI 5,sI 9]⟩,[(.exit 0,⟨[5],[],[sI 5]⟩)],O⟩])
def acX:Bd:=gd func124 (sg [.one (.n .data bo),.one (.n .data bo)] [oB]) (u2 yP) (fx 14 [4] 302264891879090705940467) [apE,B32,apG,B20,apI,apJ] (ll [⟨⟨[11,12,62,63],[],[sI 63]⟩,[(.ret,⟨[4],[],[.a6 4 .b]⟩),(.exit 0,⟨[],[],[]⟩)],O⟩])
def B56:Bd:=gd func56 (sg [oI,.one (.i .u8)] [oS]) (u2 BA) (fy 6 [19,22,24,26,28,31,33,35,37] [4] 183969022515)
def Tm:Bd:=gd func23 (sg [oI,.one (.n .data bo)] [oS,oI]) (u2 BD) (fy 11 [39,56,64,72,80] [4,5] 1213666704935244293621747 [.aw 9]) [Tl,B0,BV,S8,B56] (ll [⟨⟨[0,1,7,17,18],[],[.a6 7 .s,sI 18]⟩,[(.ret,⟨[4,5],[],[.a6 4 .s,sI 5]⟩),(.exit 0,⟨[7],[],[.a6 7 .s]⟩)],O⟩,⟨⟨(bt 394883),[(.aw 9)],[.a6 7 .s,sI 10]⟩,[(.exit 3,⟨[0,1,7,17,18],[],[.a6 7 .s]⟩)],O⟩])
def acY:Bd:=gd func222 (sg [.one (.n .ak (.int .i64)),oI] [oB]) (u2 Lh) (fx 6 [4] 66483) [] (ll [⟨⟨[0,1,7,8],[],[sI 8]⟩,[(.ret,⟨[4],[],[.a6 4 .b]⟩),(.exit 0,⟨[],[],[]⟩)],O⟩])
abbrev Tn:cU:=acY.1.2
def apL:dr prog (222,Tn):=acY.2
def acZ:iF:={af:={N:=35,T:=T,R:=R,fD:=λ_ f=>oL f [(53,Tk),(222,Tn)],var:=[0,1,2,3,4],res:=[2],eqs:=EQ,nb:=W},keys:=[0,2,3,4,6,7,8,24],hI:=[]}
def Tp:bQ:={args:=[.one (.n .data bo)],aI:=[],res:=[.one (.n .data (.int .i64))],jg:=[],cH:=[]}
def ac0:U→Q gJ:=λn=>match n with|0=>J {head:={live:=[0,3,6,7],fO:=[],vs:=[.a6 3 (.n .ak (.int .i64)),.a6 7 (.i .i64)]},gq:=[(.exit 0,{live:=[3],fO:=[],vs:=[.a6 3 (.n .ak (.int .i64))]})]}|_=>O
set_option maxRecDepth 100000 in
def apM:∀x,rS acZ ac0 f198 Tp x=(λx=>Bz x) x:=by intro x;kernel_rfl
def apN:iD prog 198 (Tp.F (λx=>Bz x)):=tu (F:=acZ) (tbl:=ac0) func198 (by kernel_rfl) mix (vQ (l:=[(53,Tk),(222,Tn)]) (pJ rfl rfl) rfl (gC.2 ⟨G53,gC.2 ⟨apL,by simp⟩⟩)) (by kernel_rfl) (by kernel_rfl) (by decide) (λ_=>by kernel_rfl) apM
def ac1:cU:=Tp.fD (by kernel_rfl) (λx=>Bz x)
def apO:dr prog (198,ac1):=tw func198 (by kernel_rfl) (by kernel_rfl) apN
abbrev apP:{p:dT×cU // dr prog p}:=⟨(198,ac1),apO⟩
def apQ:Bd:=gd func200 (sg [oI] [oN]) E2 (fx 5 [2] 157) [] (ll [⟨⟨[0,3,4],[],[.a6 3 (.n .ak (.int .i64)),sI 4]⟩,[(.exit 0,⟨[3],[],[.a6 3 (.n .ak (.int .i64))]⟩)],O⟩])
def apR:Bd:=gd func199 (sg [.one (.n .data bo),oN,oN] [.one (.n .data bo)]) (u3 Li) (fx 11 [6] 35253095790535 [.aw 9]) [B0,acJ] (ll [⟨⟨(bt 12423),[],[.a6 7 (.n .ak bo),sI 13]⟩,[(.exit 0,⟨[7],[],[.a6 7 (.n .ak bo)]⟩)],O⟩,⟨⟨(bt 13959),[(.aw 9)],[sI 10]⟩,[(.exit 2,⟨(bt 12423),[],[.a6 7 (.l .ak bo)]⟩)],O⟩])
def apS:Bd:=gd func142 (sg [.one (.n .data bo)] [.one (.n .data bo)]) Lj (fx 4 [2] 13) [apP,apQ,apR]
def apT:Bd:=gd func141 (sg [.one (.n .data bo),.one (.n .data bo)] [oB]) (u2 E3) (fx 6 [4] 16806963) [] (ll [⟨⟨[0,1,12,13],[],[sI 13]⟩,[(.ret,⟨[4],[],[.a6 4 .b]⟩),(.exit 0,⟨[],[],[]⟩)],O⟩])
def B87:Bd:=gd func87 (sg [.bC dS,oI,.one (.n .data jk),.one (.n .data nI)] [.bC dS,oI]) (u4 BE) (fy 4 [9,10,11,12,13,14,15,16,17,18,21,22,23,24,26,27,28,29,30,31,32,33,34] [8,9] 6430915247832308296771500662280795287015130829256447229214495 [.aw 4,.aw 8,.aw 20,.aw 25,.aw 35]) [Tf,Gj,BW,wA,Tm,wB,MO,apS,apT,MP] (ll [⟨⟨(bt 66113130760175033297182),[(.aw 4),(.aw 8)],[sI 18,sI 75]⟩,[(.ret,⟨[8,9],[(.aw 8)],[sI 9,.cell (.aw 8) 0 iI,.cell (.aw 8) 1 (.n .ak dx)]⟩),(.exit 0,⟨(bt 43294),[(.aw 4),(.aw 8)],[]⟩)],O⟩,⟨⟨(bt 17747108403195211620953859860762),[(.aw 4),(.aw 8)],[sI 18,.a6 21 .s,sI 22,.a6 23 (.n .data bo),sI 103]⟩,[(.ret,⟨[8,9],[(.aw 8)],[sI 9,.cell (.aw 8) 0 iI,.cell (.aw 8) 1 (.n .ak dx)]⟩),(.exit 2,⟨(bt 14952722),[(.aw 4),(.aw 8)],[sI 18,.a6 21 .s,sI 22,.a6 23 (.n .data bo)]⟩)],O⟩])
def B75:Bd:=gd func75 (sg [.bC dS,.one (.n .data bo),.bC fj] [oI]) (u3 BF) (fx 10 [6] 69341935 [.aw 3,.aw 5,.aw 8]) [apB,Tl,acX,B87]
def B77:Bd:=gd func77 (sg [.bC fS,oI,.bC fj] [.bC fS]) (u3 Sn) (fy 6 [7] [6] 239 [.aw 3,.aw 5,.aw 6])
def B38:Bd:=gd func38 (sg [.bC fS,.bC fj] [.bC fS,oI]) (u2 wb) ({fy 4 [5,6,7,8] [4,5] 1125899906859519 [.aw 2,.aw 3,.aw 4,.aw 7]with bx:=W}) [Ti,Tj,B75,B77]
def Tq:Bd:=gd func57 (sg [oI] [oB]) yR (fx 3 [2] 5)
def Tv:Bd:=gd func159 (sg [oS] [.aW (.aB 0) 0] [] [[J .s,J iI,J (.n .ak dx)]]) yS (fx 3 [2] 5 [.aw 5])
def apW:Bd:=gd func257 (sg [oS,oS] [oB]) (u2 Sr) (fx 5 [4] 19)
def MS:Bd:=gd func213 (sg [oS,oS] [oB]) (u2 pH) (fx 5 [4] 19) [apW]
def zh:Bd:=gd func247 (sg [oS] [oB]) pG (fx 5 [2] 1125899978145821) [] (ll [⟨⟨[0,3],[],[sI 3]⟩,[(.ret,⟨[2],[],[.a6 2 .b]⟩),(.exit 0,⟨[],[],[]⟩)],O⟩])
def ap6:Bd:=gd func283 (sg [oS,oS] [oB]) (u2 Ss) (fx 5 [4] 19)
def ap7:Bd:=gd func258 (sg [oS,oS] [oB]) (u2 Lq) (fx 5 [4] 19) [ap6]
def ap9:Bd:=gd func261 (sg [oI] [oI]) ap8 (fx 3 [2] 5)
def aqf:Bd:=gd func285 (sg [oS] [.one (.i .u32),.one (.i .u32)]) adb (fx 9 [2,3] 1107300861) [] (ll [⟨⟨[0,4,5],[],[.a6 4 (.i .u32),sI 5]⟩,[(.exit 0,⟨[0,4],[],[.a6 4 (.i .u32)]⟩)],O⟩,⟨⟨[4,6,7,8],[],[.a6 6 (.i .u32),.a6 7 (.i .u32),sI 8]⟩,[(.exit 2,⟨[4,6],[],[.a6 6 (.i .u32)]⟩)],O⟩])
def aqg:Bd:=gd func262 (sg [oS,oS] [oI]) (u2 aqe) (fx 11 [4] 151115727469970589747187) [aqf] (ll [⟨⟨(bt 995),[],[.a6 8 (.i .u32),sI 9]⟩,[(.exit 0,⟨(bt 483),[],[.a6 8 (.i .u32)]⟩)],O⟩,⟨⟨(bt 1507),[],[.a6 8 (.i .u32),sI 10]⟩,[(.ret,⟨[4],[],[sI 4]⟩),(.exit 2,⟨[],[],[]⟩)],O⟩])
def Tx:Bd:=gd func151 (sg [oS] [oB]) BG (fy 3 [4] [2] 29)
def adf:Bd:=gd func276 (sg [.aW (.aB 0) 0,oB] [oB] [.cells [.n .ak bo,.n .ak (.int .u8),.n .ak (.int .i64),.n .ak bo,.i .i64]] [[O,O,O,O,O]]) (u2 E9) (fx 6 [4] 268501043 [.aB 0])
def adg:Bd:=gd func221 (sg [.aW (.aB 0) 0] [] [.cells [.n .ak bo,.n .ak (.int .u8),.n .ak (.int .i64),.n .ak bo,.i .i64]] [[J (.n .ak bo),J (.n .ak (.int .u8)),J (.n .ak (.int .i64)),J (.n .ak bo),J iI]]) E8 (fx 2 [] 129 [.aB 0])
def adh:Bd:=gd func248 (sg [.aW (.aB 0) 0,.bC bo,oI] [oB] [.cells [.n .ak bo,.n .ak (.int .u8),.n .ak (.int .i64),.n .ak bo,.i .i64]] [[J (.n .ak bo),J (.n .ak (.int .u8)),J (.n .ak (.int .i64)),J (.n .ak bo),J iI]]) (u3 rY) (fx 7 [6] 343 [.aB 0,.aw 4]) [adf,adg]
def adi:Bd:=gd func244 (sg [oB] [oI]) mO (fx 3 [2] 21)
def aql:Bd:=gd func243 (sg [oS] [.one (.i .u8),oI,oB]) Lp (fy 6 [8,11,14,17] [2,3,4] 149821) [MS]
def aqm:Bd:=gd func245 (sg [.aW (.aB 0) 0,.one (.i .u8),oI] [oB] [.cells [.n .ak bo,.n .ak (.int .u8),.n .ak (.int .i64),.n .ak bo,.i .i64]] [[J (.n .ak bo),J (.n .ak (.int .u8)),J (.n .ak (.int .i64)),J (.n .ak bo),J iI]]) (u3 wd) (fx 7 [6] 327 [.aB 0]) [adf]
def aqo:Bd:=gd func169 (sg [.aW (.aB 0) 0] [.one (.n .data bo)] [.cells [.n .ak bo,.n .ak (.int .u8),.n .ak (.int .i64),.n .ak bo,.i .i64]] [[J (.n .data bo),J (.n .ak (.int .u8)),J (.n .ak (.int .i64)),J (.n .ak bo),J iI]]) Ll (fx 3 [2] 5 [.aB 0]) [adg]
def Tz:Bd:=gd func162 (sg [.aW (.aB 0) 0,oI,oI,oS] [] [.cells [.s,.i .i64,.n .ak dx]] [[J .s,J iI,J (.n .ak dx)]]) (u4 yU) (fx 8 [] 15 [.aB 0])
def TA:Bd:=gd func164 (sg [.aW (.aB 0) 0] [.one (.n .data dx)] [.cells [.s,.i .i64,.n .ak dx]] [[J .s,J iI,J .dd]]) yT (fx 3 [2] 5 [.aB 0])
def aqG:Bd:=gd func166 (sg [oS] [oI]) Ly (fx 5 [2] 4398046515229) [] (ll [⟨⟨[0,3],[],[sI 3]⟩,[(.exit 0,⟨[3],[],[sI 3]⟩)],O⟩])
def aqH:Bd:=gd func167 (sg [oS,oI] [oI]) (u2 Sw) (fx 5 [4] 278547) [] (ll [⟨⟨[0,1],[],[sI 1]⟩,[(.exit 0,⟨[0,1],[],[sI 1]⟩)],O⟩])
def aqI:Bd:=gd func249 (sg [.one (.i .u8)] [oB]) Sv (fx 3 [2] 5)
def aqJ:Bd:=gd func250 (sg [.one (.i .u8)] [.one (.i .u8),oB]) Lu (fy 4 [5,7,9,11,13] [2,3] 10941)
def adp:Bd:=gd func276 (sg [.aW (.aB 0) 0,oB] [oB] [.cells [.n .ak bo,.n .ak (.int .u8),.n .ak (.int .i64),.i .i64,.i .i64]] [[O,O,O,O,O]]) (u2 Fj) (fx 6 [4] 268501043 [.aB 0])
def aqK:Bd:=gd func245 (sg [.aW (.aB 0) 0,.one (.i .u8),oI] [oB] [.cells [.n .ak bo,.n .ak (.int .u8),.n .ak (.int .i64),.i .i64,.i .i64]] [[J (.n .ak bo),J (.n .ak (.int .u8)),J (.n .ak (.int .i64)),J iI,J iI]]) (u3 BL) (fx 7 [6] 327 [.aB 0]) [adp]
def adq:Bd:=gd func221 (sg [.aW (.aB 0) 0] [] [.cells [.n .ak bo,.n .ak (.int .u8),.n .ak (.int .i64),.i .i64,.i .i64]] [[J (.n .ak bo),J (.n .ak (.int .u8)),J (.n .ak (.int .i64)),J iI,J iI]]) Fi (fx 2 [] 129 [.aB 0])
def aqL:Bd:=gd func248 (sg [.aW (.aB 0) 0,.bC bo,oI] [oB] [.cells [.n .ak bo,.n .ak (.int .u8),.n .ak (.int .i64),.i .i64,.i .i64]] [[J (.n .ak bo),J (.n .ak (.int .u8)),J (.n .ak (.int .i64)),J iI,J iI]]) (u3 Fk) (fx 7 [6] 343 [.aB 0,.aw 4]) [adp,adq]
def aqN:Bd:=gd func169 (sg [.aW (.aB 0) 0] [.one (.n .data bo)] [.cells [.n .ak bo,.n .ak (.int .u8),.n .ak (.int .i64),.i .i64,.i .i64]] [[J (.n .data bo),J (.n .ak (.int .u8)),J (.n .ak (.int .i64)),J iI,J iI]]) BK (fx 3 [2] 5 [.aB 0]) [adq]
def aqQ:Bd:=gd func219 (sg [.aW (.aB 0) 0,oI,oI,oI] [] [.cells [.s,.p (.aB 1) 0,.i .i64,.i .i64,.i .i64,.i .i64],.cells [.s,.i .i64,.n .ak dx]] [[O,O,O,J iI,J iI,J iI],[O,O,O]]) (λx=>LI x.1 x.2.1 x.2.2.1 x.2.2.2.1 x.2.2.2.2) (fx 8 [] 32783 [.aB 0,.aB 1])
def adt:Bd:=gd func276 (sg [.aW (.aB 0) 0,oB] [oB] [.cells [.n .ak bo,.n .ak (.int .u8),.n .ak (.int .i64)]] [[O,O,O]]) (u2 qD) (fx 6 [4] 268501043 [.aB 0])
def aqR:Bd:=gd func245 (sg [.aW (.aB 0) 0,.one (.i .u8),oI] [oB] [.cells [.n .ak bo,.n .ak (.int .u8),.n .ak (.int .i64)]] [[J (.n .ak bo),J (.n .ak (.int .u8)),J (.n .ak (.int .i64))]]) (u3 r7) (fx 7 [6] 327 [.aB 0]) [adt]
def adu:Bd:=gd func221 (sg [.aW (.aB 0) 0] [] [.cells [.n .ak bo,.n .ak (.int .u8),.n .ak (.int .i64)]] [[J (.n .ak bo),J (.n .ak (.int .u8)),J (.n .ak (.int .i64))]]) qC (fx 2 [] 129 [.aB 0])
def aqS:Bd:=gd func248 (sg [.aW (.aB 0) 0,.bC bo,oI] [oB] [.cells [.n .ak bo,.n .ak (.int .u8),.n .ak (.int .i64)]] [[J (.n .ak bo),J (.n .ak (.int .u8)),J (.n .ak (.int .i64))]]) (u3 tM) (fx 7 [6] 343 [.aB 0,.aw 4]) [adt,adu]
def aqU:Bd:=gd func169 (sg [.aW (.aB 0) 0] [.one (.n .data bo)] [.cells [.n .ak bo,.n .ak (.int .u8),.n .ak (.int .i64)]] [[J (.n .data bo),J (.n .ak (.int .u8)),J (.n .ak (.int .i64))]]) LG (fx 3 [2] 5 [.aB 0]) [adu]
def B59:Bd:=gd func59 (sg [.one (.n .data dx),.one (.n .data dx)] [oB]) (u2 LL) (fx 6 [4] 16806963) [] (ll [⟨⟨[0,1,12,13],[],[sI 13]⟩,[(.ret,⟨[4],[],[.a6 4 .b]⟩),(.exit 0,⟨[],[],[]⟩)],O⟩])
def aq2:Bd:=gd func139 (sg [.one (.n .data dx)] [.one (.n .data dx)]) LO (fx 3 [2] 21)
def aq3:Bd:=gd func193 (sg [.bC dS] [.bC dS]) SF (fx 2 [2] 7 [.aw 1,.aw 2]) [aq2]
def aq4:Bd:=gd func229 (sg [.one (.n .data bo)] [.one (.n .data bo)]) LN (fx 3 [2] 21)
def aq5:Bd:=gd func194 (sg [.bC fj] [.bC fj]) SE (fx 2 [2] 7 [.aw 1,.aw 2]) [aq4]
def aq6:Bd:=gd func132 (sg [.bC fS] [.bC fS]) LP (fy 0 [0,1,3,4,5,6,7] [2] 2013327535 [.aw 1,.aw 2,.aw 3,.aw 5,.aw 7]) [aq3,aq5] (ll [⟨⟨(bt 28686),[(.aw 1),(.aw 2),(.aw 3)],[sI 14,.cell (.aw 3) 0 (.n .ak dS),.cell (.aw 3) 1 (.n .ak fj),.cell (.aw 3) 2 iI]⟩,[(.exit 0,⟨[1,2,3],[(.aw 1),(.aw 2),(.aw 3)],[.cell (.aw 3) 0 (.n .ak dS),.cell (.aw 3) 1 (.n .ak fj),.cell (.aw 3) 2 iI]⟩)],O⟩,⟨⟨[2,3,27,28,29],[(.aw 2),(.aw 3)],[sI 29,.cell (.aw 3) 0 (.n .ak dS),.cell (.aw 3) 1 (.n .ak fj),.cell (.aw 3) 2 iI]⟩,[(.exit 2,⟨[2,3],[(.aw 2),(.aw 3)],[.cell (.aw 3) 0 (.n .ak dS),.cell (.aw 3) 1 (.n .ak fj),.cell (.aw 3) 2 iI]⟩)],O⟩])
def F82:iF:={af:={N:=22,T:=T,R:=R,fD:=λ_ f=>oL f [],var:=[0,1,2,3,4,5],res:=[2],eqs:=EQ,dat:=[1,2,3,4,5],nb:=W},keys:=[0,1,2,3,4,5,7,8,9,10,15],hI:=[.aw 1,.aw 5]}
def Gl:bQ:={args:=[.bC dS],aI:=[],res:=[.one (.n .data (.int .i64))],jg:=[],cH:=[]}
def L82:U→Q gJ:=λn=>match n with|0=>J {head:={live:=[3,7,8,9],fO:=[],vs:=[.a6 3 (.n .ak (.int .i64)),.a6 9 (.i .i64)]},gq:=[(.exit 0,{live:=[3],fO:=[],vs:=[.a6 3 (.n .ak (.int .i64))]})]}|_=>O
set_option maxRecDepth 100000 in
def aq7:∀x,rS F82 L82 f82 Gl x=(λx=>nH x) x:=by intro x;kernel_rfl
def adz:iD prog 82 (Gl.F (λx=>nH x)):=tu (F:=F82) (tbl:=L82) func82 (by kernel_rfl) mix (vQ (l:=[]) (pJ rfl rfl) rfl (by simp)) (by kernel_rfl) (by kernel_rfl) (by decide) (λ_=>by kernel_rfl) aq7
def C82:cU:=Gl.fD (by kernel_rfl) (λx=>nH x)
def G82:dr prog (82,C82):=tw func82 (by kernel_rfl) (by kernel_rfl) adz
abbrev B82:{p:dT×cU // dr prog p}:=⟨(82,C82),G82⟩
def TH:Bd:=gd func61 (sg [.bC bo] [oI]) Fw (fx 3 [2] 39 [.aw 1])
abbrev TJ:cU:=TH.1.2
def G61:dr prog (61,TJ):=TH.2
def Gm:Bd:=gd func29 (sg [.one (.n .data bo)] [oI]) wj (fx 6 [2] 1005 [.aw 5]) [TH] (ll [⟨⟨[3,6,7,8],[],[sI 3,sI 8]⟩,[(.exit 0,⟨[3],[],[sI 3]⟩)],O⟩])
abbrev Gn:cU:=Gm.1.2
def G29:dr prog (29,Gn):=Gm.2
def arf:Bd:=gd func195 (sg [.bC fj,.bC fj] [oB]) (u2 Mi) (fy 6 [16] [4] 65599 [.aw 2,.aw 3])
def TL:iF:={af:={N:=29,T:=T,R:=R,fD:=λ_ f=>oL f [],var:=[0,1,2,3,4],res:=[4],eqs:=EQ,dat:=[2,3,4],nb:=W},keys:=[0,1,4],hI:=[.aB 0]}
def TM:bQ:={args:=[.aW (.aB 0) 0,.one (.i .i64)],aI:=[.cells [.n .data dS,.n .data fj,.i .i64,.l .ak oR]],res:=[.one (.n .data bo)],jg:=[[O,O,O,O]],cH:=[]}
def L93:U→Q gJ:=λ_=>O
set_option maxRecDepth 100000 in
def arh:∀x,rS TL L93 f93 TM x=(λx=>wm x.1 x.2) x:=by intro x;kernel_rfl
def ari:iD prog 93 (TM.F (λx=>wm x.1 x.2)):=tu (F:=TL) (tbl:=L93) func93 (by kernel_rfl) mix (vQ (l:=[]) (pJ rfl rfl) rfl (by simp)) (by kernel_rfl) (by kernel_rfl) (by decide) (λ_=>by kernel_rfl) arh
def C93:cU:=TM.fD (by kernel_rfl) (λx=>wm x.1 x.2)
def G93:dr prog (93,C93):=tw func93 (by kernel_rfl) (by kernel_rfl) ari
abbrev B93:{p:dT×cU // dr prog p}:=⟨(93,C93),G93⟩
def F27:iF:={af:={N:=67,T:=T,R:=R,fD:=λ_ f=>oL f [(29,Gn),(61,TJ)],var:=[0,1,2,3,4,5,6,7,8,9,10,11,12,13,14],res:=[6,7],eqs:=EQ,dat:=[3,4,5,6,7,8,9,10,11,12,13,14],nb:=W},keys:=[0,1,2,6,7,8,9,11,12,13,14,27,28,29,30,31,46,49],hI:=[.aw 11]}
def Gp:bQ:={args:=[.one (.n .data bo),.one (.i .i64),.one (.i .i64)],aI:=[],res:=[.one (.n .data bo),.one .b],jg:=[],cH:=[]}
def L27:U→Q gJ:=λn=>match n with|0=>J {head:={live:=[1,2,8,9,28,29,30],fO:=[],vs:=[.a6 8 (.n .ak bo),.a6 9 (.i .i64),.a6 30 (.i .i64)]},gq:=[(.exit 0,{live:=[8],fO:=[],vs:=[.a6 8 (.n .ak bo)]})]}|_=>O
set_option maxRecDepth 100000 in
def arl:∀x,rS F27 L27 f27 Gp x=(λx=>qE x.1 x.2.1 x.2.2) x:=by intro x;kernel_rfl
def adG:iD prog 27 (Gp.F (λx=>qE x.1 x.2.1 x.2.2)):=tu (F:=F27) (tbl:=L27) func27 (by kernel_rfl) mix (vQ (l:=[(29,Gn),(61,TJ)]) (pJ rfl rfl) rfl (gC.2 ⟨G29,gC.2 ⟨G61,by simp⟩⟩)) (by kernel_rfl) (by kernel_rfl) (by decide) (λ_=>by kernel_rfl) arl
def C27:cU:=Gp.fD (by kernel_rfl) (λx=>qE x.1 x.2.1 x.2.2)
def G27:dr prog (27,C27):=tw func27 (by kernel_rfl) (by kernel_rfl) adG
abbrev B27:{p:dT×cU // dr prog p}:=⟨(27,C27),G27⟩
def B48:Bd:=gd func48 (sg [.aW (.aB 0) 0,oI] [.one (.n .data bo)] [.cells [.n .data dS,.n .data fj,.i .i64,.l .ak oR]] [[O,O,O,O]]) (u2 wn) (fx 8 [4] 115 [.aB 0,.aw 5]) [B93,B27]
def aro:Bd:=gd func230 (sg [.bC fj] [oB]) Mg (fy 5 [13,26,33,42] [2] 4406703566879 [.aw 1]) [zh]
def Gq:Bd:=gd func111 (sg [.bC bo] [oB]) qF (fx 3 [2] 7 [.aw 1])
def B88:Bd:=gd func88 (sg [.one (.n .data bo)] [oN,oN,oB]) FW (fy 7 [13,22,36,56] [2,3,4] 72057662761609181 [.aw 6]) [] (ll [⟨⟨[2,3,7,8,9],[],[.a6 2 (.n .ak (.int .i64)),.a6 3 (.n .ak (.int .i64)),sI 9]⟩,[(.ret,⟨[2,3,4],[],[.a6 2 (.n .ak (.int .i64)),.a6 3 (.n .ak (.int .i64)),.a6 4 .b]⟩),(.exit 0,⟨[2,3],[],[.a6 2 (.n .ak (.int .i64)),.a6 3 (.n .ak (.int .i64))]⟩)],O⟩])
abbrev TN:cU:=B88.1.2
def G88:dr prog (88,TN):=B88.2
def B89:Bd:=gd func89 (sg [oN,oN] [oB]) (u2 FZ) (fx 6 [4] 16806963) [] (ll [⟨⟨[0,1,12,13],[],[sI 13]⟩,[(.ret,⟨[4],[],[.a6 4 .b]⟩),(.exit 0,⟨[],[],[]⟩)],O⟩])
abbrev TO:cU:=B89.1.2
def G89:dr prog (89,TO):=B89.2
def B90:Bd:=gd func90 (sg [.one (.n .data bo)] [.one (.n .data bo)]) FY (fx 6 [2] 9197 [.aw 5]) [Gq] (ll [⟨⟨[3,6,7,8],[],[.a6 3 (.n .ak bo),sI 8]⟩,[(.exit 0,⟨[3],[],[.a6 3 (.n .ak bo)]⟩)],O⟩])
abbrev TP:cU:=B90.1.2
def G90:dr prog (90,TP):=B90.2
def B91:Bd:=gd func91 (sg [.one (.n .data .bh),.one (.n .data .bh)] [oB]) (u2 Me) (fx 6 [4] 16806963) [] (ll [⟨⟨[0,1,12,13],[],[sI 13]⟩,[(.ret,⟨[4],[],[.a6 4 .b]⟩),(.exit 0,⟨[],[],[]⟩)],O⟩])
abbrev TR:cU:=B91.1.2
def G91:dr prog (91,TR):=B91.2
def adW:Bd:=gd func135 (sg [.one (.n .data jk),oI] [oB]) (u2 LR) (fx 8 [4] 1073745843 [.aw 7]) [] (ll [⟨⟨[1,5,8,9,10],[],[sI 5,sI 10]⟩,[(.ret,⟨[4],[],[.a6 4 .b]⟩),(.exit 0,⟨[],[],[]⟩)],O⟩])
abbrev TS:cU:=adW.1.2
def arG:dr prog (135,TS):=adW.2
def arH:Bd:=gd func145 (sg [.aW (.aB 0) 0,oI] [oN] [.cells [.n .ak bo,.n .ak (.int .u8),.n .ak (.int .i64),.n .ak bo,.i .i64]] [[J (.n .ak bo),J (.n .ak (.int .u8)),J .dd,J (.n .ak bo),J iI]]) (u2 SG) (fx 5 [4] 19 [.aB 0])
def arI:Bd:=gd func145 (sg [.aW (.aB 0) 0,oI] [oN] [.cells [.n .ak bo,.n .ak (.int .u8),.n .ak (.int .i64),.i .i64,.i .i64]] [[J (.n .ak bo),J (.n .ak (.int .u8)),J .dd,J iI,J iI]]) (u2 SH) (fx 5 [4] 19 [.aB 0])
def arJ:Bd:=gd func145 (sg [.aW (.aB 0) 0,oI] [oN] [.cells [.n .ak bo,.n .ak (.int .u8),.n .ak (.int .i64)]] [[J (.n .ak bo),J (.n .ak (.int .u8)),J .dd]]) (u2 SI) (fx 5 [4] 19 [.aB 0])
def asA:Bd:=gd func110 (sg [.nB,oI] [.one (.n .ak bo)]) LZ ({fx 5 [4] 65619 with od:=I})
def B63:Bd:=gd func63 (sg [.one (.n .data nI)] [.one (.n .data bo)]) L0 (fx 9 [2] 504373101) [asA] (ll [⟨⟨(bt 3593),[],[sI 3,sI 11]⟩,[(.exit 0,⟨[0,3],[],[sI 3]⟩)],O⟩,⟨⟨[6,25,26,27],[],[.a6 6 (.n .ak bo),sI 27]⟩,[(.exit 2,⟨[6],[],[.a6 6 (.n .ak bo)]⟩)],O⟩])
def B62:Bd:=gd func62 (sg [.one (.n .data bo)] [.one (.n .data bo)]) FL (fx 6 [2] 281543696220733) [] (ll [⟨⟨[0,3,4],[],[.a6 3 (.n .ak bo),sI 4]⟩,[(.exit 0,⟨[3],[],[.a6 3 (.n .ak bo)]⟩)],O⟩,⟨⟨[0,3,4,5],[],[sI 4,.a6 5 (.n .ak (.int .u8))]⟩,[(.exit 2,⟨[0,3,4,5],[],[sI 4,.a6 5 (.n .ak (.int .u8))]⟩)],O⟩])
def B28:Bd:=gd func28 (sg [.one (.n .data bo),.one (.n .data bo)] [.one (.n .data bo)]) (u2 BQ) (fx 5 [4] 19) [B63,B62]
def aei:Bd:=gd func138 (sg [.one (.n .data bo),.one (.n .data jk),.one (.n .data nI)] [.one (.n .data bo)]) (u3 L1) (fx 15 [6] 503751 [.aw 10]) [B27,B28,Gm] (ll [⟨⟨(bt 229765),[],[.a6 7 (.n .data bo),sI 8,sI 17]⟩,[(.exit 0,⟨[0,7,8],[],[.a6 7 (.n .data bo),sI 8]⟩)],O⟩])
abbrev T5:cU:=aei.1.2
def asD:dr prog (138,T5):=aei.2
def B65:Bd:=gd func65 (sg [.one (.n .data bo)] [oN]) L2 (fx 7 [2] 4198237 [.aw 6]) [Gq] (ll [⟨⟨[3,4,8,9,10],[],[.a6 3 (.n .ak (.int .i64)),.a6 4 (.l .ak acD),sI 10]⟩,[(.exit 0,⟨[3],[],[.a6 3 (.n .ak (.int .i64))]⟩)],O⟩])
def B67:Bd:=gd func67 (sg [oI] [oN]) FU (fx 5 [2] 1821) [] (ll [⟨⟨[3,8,9],[],[.a6 3 (.l .ak (.int .i64)),sI 9]⟩,[(.exit 0,⟨[3],[],[.a6 3 (.l .ak (.int .i64))]⟩)],O⟩])
def B66:Bd:=gd func66 (sg [.one (.n .data bo),oN,oN] [.one (.n .data bo)]) (u3 L6) (fx 14 [6] 1128356632345543 [.aw 11]) [Gq,B62] (ll [⟨⟨[0,1,2,7,8],[],[.a6 7 (.l .ak S3),sI 8]⟩,[(.exit 0,⟨[0,7],[],[.a6 7 (.l .ak S3)]⟩)],O⟩,⟨⟨[7,9,34,35,36],[],[.a6 9 (.n .ak bo),sI 36]⟩,[(.exit 2,⟨[9],[],[.a6 9 (.n .ak bo)]⟩)],O⟩])
def B31:Bd:=gd func31 (sg [.one (.n .data bo)] [.one (.n .data bo)]) L7 (fx 4 [2] 13) [B65,B67,B66]
abbrev T6:cU:=B31.1.2
def G31:dr prog (31,T6):=B31.2
def B64:Bd:=gd func64 (sg [.one (.n .data bo),.one (.n .data bo)] [oB]) (u2 SJ) (fx 6 [4] 16806963) [] (ll [⟨⟨[0,1,12,13],[],[sI 13]⟩,[(.ret,⟨[4],[],[.a6 4 .b]⟩),(.exit 0,⟨[],[],[]⟩)],O⟩])
def B30:Bd:=gd func30 (sg [.one (.n .data bo),.one (.n .data bo)] [oB]) (u2 Ma) (fx 5 [4] 19) [B64]
abbrev T7:cU:=B30.1.2
def G30:dr prog (30,T7):=B30.2
def ael:Bd:=gd func139 (sg [.one (.n .data dx)] [.one (.n .ak dx)]) Mb ({fx 3 [2] 21 with od:=I})
abbrev T8:cU:=ael.1.2
def asK:dr prog (139,T8):=ael.2
def U7:Bd:=gd func18 (sg [.one (.n .data nJ),.one (.n .data nJ)] [oB]) (u2 E7) (fx 6 [4] 16806963) [] (ll [⟨⟨[0,1,12,13],[],[sI 13]⟩,[(.ret,⟨[4],[],[.a6 4 .b]⟩),(.exit 0,⟨[],[],[]⟩)],O⟩])
abbrev U8:cU:=U7.1.2
def G18:dr prog (18,U8):=U7.2
def B40:Bd:=gd func40 (sg [oN] [.aW (.aB 0) 0] [] [[J (.n .data (.int .i64)),J iI]]) SP (fx 3 [2] 5 [.aw 5])
def aug:Bd:=gd func126 (sg [oI,oI] [oI]) (u2 SQ) (fx 5 [4] 531)
def tW:Bd:=gd func79 (sg [.aW (.aB 0) 0,oI] [oI] [.bC qG] [[O,J iI]]) (u2 iX) (fx 6 [4] 32819 [.aB 0]) [aug]
def auh:Bd:=gd func227 (sg [oS] [.bC bo]) si (fx 2 [2] 5 [.aw 2])
def aui:Bd:=gd func189 (sg [.aW (.aB 0) 0,oB] [.one (.n .data bo)] [.bC qG] [[O,J iI]]) (u2 MD) (fx 10 [4] 4503599627371507 [.aB 0,.aw 6,.aw 7]) [tW,auh]
def auj:Bd:=gd func125 (sg [.aW (.aB 0) 0,oI] [.bC dS] [.bC qG] [[O,J iI]]) (u2 MG) (fy 4 [5,6,7,8,9,10,11,12,13,14,59,66] [4] 38685700600253134923651059 [.aB 0,.aw 4,.aw 12]) [tW,aui,Tm,Tb,Te] (ll [⟨⟨[0,4,5,6,7],[(.aB 0),(.aw 4)],[.a6 6 .s,sI 7,.cell (.aB 0) 1 iI]⟩,[(.exit 0,⟨[4,5,6],[(.aB 0),(.aw 4)],[.a6 6 .s,.cell (.aB 0) 1 iI]⟩)],O⟩,⟨⟨(bt 1009),[(.aB 0),(.aw 4)],[.a6 8 .s,sI 9,.cell (.aB 0) 1 iI]⟩,[(.exit 2,⟨(bt 497),[(.aB 0),(.aw 4)],[.a6 8 .s,.cell (.aB 0) 1 iI]⟩)],O⟩])
def B78:Bd:=gd func78 (sg [.aW (.aB 0) 0] [.one (.n .data dS)] [.bC qG] [[O,J iI]]) MH (fx 5 [2] 285 [.aB 0]) [tW,auj] (ll [⟨⟨[0,3,4],[(.aB 0)],[.a6 3 (.n .ak dS),sI 4,.cell (.aB 0) 1 iI]⟩,[(.exit 0,⟨[3],[(.aB 0)],[.a6 3 (.n .ak dS),.cell (.aB 0) 1 iI]⟩)],O⟩])
def aul:Bd:=gd func222 (sg [oN,oI] [oB]) (u2 Mv) (fx 6 [4] 66483) [] (ll [⟨⟨[0,1,7,8],[],[sI 8]⟩,[(.ret,⟨[4],[],[.a6 4 .b]⟩),(.exit 0,⟨[],[],[]⟩)],O⟩])
def aum:Bd:=gd func170 (sg [.bC dS,oI] [oB]) (u2 Mw) (fx 5 [4] 23 [.aw 2]) [Tg,aul]
def aun:Bd:=gd func171 (sg [.bC fj,.bC fj] [oB]) (u2 ww) (fx 5 [4] 524831 [.aw 2,.aw 3])
def auo:Bd:=gd func112 (sg [.bC fS,oI] [oI]) (u2 wx) (fy 0 [0,1,4,7,8,11,12] [4] 20770473731211380479564972199775479 [.aw 2,.aw 5,.aw 6,.aw 10]) [aum,Gj,wA,aun,wB,B75] (ll [⟨⟨[1,2,5,6,7,90,91,92],[(.aw 2),(.aw 5),(.aw 6)],[sI 92]⟩,[(.ret,⟨[4],[],[sI 4]⟩),(.exit 0,⟨[1,2,5,6,7],[(.aw 2),(.aw 5),(.aw 6)],[]⟩)],O⟩])
def Nc:Bd:=gd func68 (sg [.bC fS] [oI]) zb (fx 8 [2] 578618270548215 [.aw 1,.aw 4]) [Tf,auo] (ll [⟨⟨[1,19,20,21],[(.aw 1)],[sI 21]⟩,[(.ret,⟨[2],[],[sI 2]⟩),(.exit 0,⟨[1],[(.aw 1)],[]⟩)],O⟩,⟨⟨[1,41,42],[(.aw 1)],[sI 42]⟩,[(.ret,⟨[2],[],[sI 2]⟩),(.exit 2,⟨[],[],[]⟩)],O⟩])
def aup:Bd:=gd func190 (sg [.bC fj] [oI,oS]) Gb (fx 4 [2,3] 591 [.aw 1])
def auq:Bd:=gd func127 (sg [.bC fS,oI,oI,oI] [.bC fS,oI]) (u4 MB) (fy 4 [9,10,11] [8,9] 73859033888943832863 [.aw 4,.aw 8,.aw 12,.aw 13,.aw 14,.aw 15]) [Nc,Ti,wA,wB,aup]
def aur:Bd:=gd func191 (sg [.bC fS,oI] [oB]) (u2 Mz) (fx 5 [4] 23 [.aw 2])
def aus:Bd:=gd func128 (sg [.bC fS,oI] [.bC fS,oI]) (u2 MA) (fy 0 [0,1,5,6,7,11,12,13,14,15] [4,5] 674998591609678725883160429585346551 [.aw 2,.aw 4,.aw 8,.aw 9,.aw 10,.aw 16]) [Nc,Ti,aur,Gj,wB,MO,Tl]
def aut:Bd:=gd func129 (sg [.bC fS,.bC fj] [.bC fS,oI]) (u2 oQ) (fy 4 [5,6] [4,5] 1151 [.aw 2,.aw 3,.aw 4]) [Nc,B38]
def auu:Bd:=gd func228 (sg [.aW (.aB 0) 0] [oS] [.bC qG] [[O,J iI]]) Mr (fx 3 [2] 5 [.aB 0]) [tW]
def auv:Bd:=gd func192 (sg [.aW (.aB 0) 0,oI] [oS] [.bC qG] [[O,J iI]]) (u2 Ms) (fx 8 [4] 16785651 [.aB 0]) [tW,auu] (ll [⟨⟨[0,5,6],[(.aB 0)],[.a6 5 .s,sI 6,.cell (.aB 0) 1 iI]⟩,[(.exit 0,⟨[5],[(.aB 0)],[.a6 5 .s,.cell (.aB 0) 1 iI]⟩)],O⟩])
def auw:Bd:=gd func130 (sg [.aW (.aB 0) 0,.one (.n .data bo)] [.one (.n .data bo)] [.bC qG] [[O,J iI]]) (u2 Mt) (fx 8 [4] 8590462707 [.aB 0,.aw 7]) [tW,auv,MO] (ll [⟨⟨[0,1,5,9,10],[(.aB 0)],[.a6 5 (.n .data bo),sI 10,.cell (.aB 0) 1 iI]⟩,[(.exit 0,⟨[5],[(.aB 0)],[.a6 5 (.n .data bo),.cell (.aB 0) 1 iI]⟩)],O⟩])
def aux:Bd:=gd func131 (sg [.aW (.aB 0) 0] [oS] [.bC qG] [[O,J iI]]) Mq (fx 3 [2] 5 [.aB 0]) [tW]
def B80:Bd:=gd func80 (sg [.aW (.aB 0) 0,.bC fS] [.bC fS] [.bC qG] [[O,J iI]]) (u2 MC) (fy 0 [0,1,5,7,9,74,96,105,117] [4] 1361295661827274357053923909012136403963 [.aB 0,.aw 3,.aw 4,.aw 6,.aw 8]) [tW,Tj,wA,auq,aus,aut,auw,aux]
def B86:Bd:=gd func86 (sg [.bC fS,oI,oB] [oB]) (u3 sj) (fx 8 [6] 207 [.aw 3,.aw 7]) [Tj,acX]
def B45:Bd:=gd func45 (sg [.bC fS,oI,oB] [.bC dS,oI]) (u3 tQ) (fy 6 [7,8,9,10,11,12,13,14,15,16,17] [6,7] 9913192311137897150593366991 [.aw 3,.aw 6,.aw 9,.aw 15,.aw 16]) [Nc,Tg,B86,B87] (ll [⟨⟨[1,2,3,6,9,40,41,42],[(.aw 3),(.aw 6),(.aw 9)],[sI 42,.cell (.aw 9) 0 iI,.cell (.aw 9) 1 (.n .data dx)]⟩,[(.ret,⟨[6,7],[(.aw 6)],[sI 7,.cell (.aw 6) 0 iI,.cell (.aw 6) 1 (.n .ak dx)]⟩),(.exit 0,⟨[6,9],[(.aw 6),(.aw 9)],[.cell (.aw 9) 0 iI,.cell (.aw 9) 1 (.n .data dx)]⟩)],O⟩,⟨⟨(bt 992858999896654),[(.aw 3),(.aw 6),(.aw 9)],[.a6 12 (.n .ak jk),.a6 13 (.n .ak nI),sI 49]⟩,[(.exit 2,⟨(bt 7696581409358),[(.aw 3),(.aw 6),(.aw 9)],[.a6 12 (.n .ak jk),.a6 13 (.n .ak nI)]⟩)],O⟩])
def B13:Bd:=gd func13 (sg [.bC fS,oI] [oS,oI]) (u2 zD) (fx 8 [4,5] 33015 [.aw 2,.aw 6]) [B45,MP]
def B17:Bd:=gd func17 (sg [.bC fS,oI] [.one (.n .data nJ),oI]) (u2 NQ) (fy 0 [0,1,4,5,6,7,9,10,11,13,14,15,16,17,20,22,23] [4,5] 10141204820723948203722738810807 [.aw 2,.aw 8,.aw 12,.aw 19,.aw 21]) [B13,BW,Tm] (ll [⟨⟨[1,2,8,9,10,39,40,41],[(.aw 2),(.aw 8)],[.a6 9 (.n .ak nJ),sI 10,sI 41]⟩,[(.exit 0,⟨[9],[],[.a6 9 (.n .ak nJ)]⟩)],O⟩,⟨⟨(bt 4035229114414710534),[(.aw 2),(.aw 8),(.aw 12)],[.a6 9 (.n .ak nJ),sI 13,sI 61]⟩,[(.exit 2,⟨(bt 3848290711302),[(.aw 2),(.aw 8),(.aw 12)],[.a6 9 (.n .ak nJ),sI 13]⟩)],O⟩])
abbrev Wj:cU:=B17.1.2
def G17:dr prog (17,Wj):=B17.2
end
end Go.Proofs.YtgbmhohlapmgbaaGreatDoor.vd
namespace Go.Proofs
noncomputable section
open Go.Shelf
def Tryz.acM:HK:=⟨λ|169=>85|n=>n,λ|70=>134|9=>9|0=>0|72=>137|37=>135|127=>188|3=>3|5=>5|n=>n,λ|n=>n⟩
def Tryz.ao3:Go.Proofs.Lays.n169 be Tryz.acM:={mixed:=by kernel_rfl,f169:=ab0 Tryz.func85 (bX J (by kernel_rfl)),t0:=Tryz.underlying0,a0:=Tryz.isAgg0,z0:=Tryz.sizeOf0,v0:=Tryz.zeroValue0,t3:=w8,a3:=Tryz.isAgg3,z3:=Tryz.sizeOf3,v3:=Tryz.zeroValue3,t9:=uw,a9:=Tryz.isAgg9,z9:=Tryz.sizeOf9,v9:=Tryz.zeroValue9,t37:=pU,a37:=Tryz.isAgg135,z37:=Tryz.sizeOf135,v37:=Tryz.zeroValue135,t70:=Wz,a70:=Tryz.isAgg134,z70:=Tryz.sizeOf134,v70:=Tryz.zeroValue134,t72:=Tryz.underlying137,a72:=Tryz.isAgg137,z72:=Tryz.sizeOf137,v72:=Tryz.zeroValue137,t127:=Tryz.underlying188,a127:=Tryz.isAgg188,z127:=Tryz.sizeOf188,v127:=Tryz.zeroValue188}
def Tryz.ao4:Builder.Extra be Tryz.acM:={sizeBuilder:=by kernel_rfl,liesBuilder:=by kernel_rfl,t5:=w9,a5:=Tryz.isAgg5,z5:=Tryz.sizeOf5,v5:=Tryz.zeroValue5,infoByte:=by kernel_rfl,cellsByte:=by kernel_rfl,sizeByte:=by kernel_rfl,neB5:=by decide}
open Go.RowKit in
def Tryz.Builder_String_any(B b:U)(l:M ao)(w:bZ)(h:xa 137 5 B b (N6 l) w)(a:B≤w.heap.size):ez be 85 #[.pointer (J ⟨b,0,O⟩)] w λe w'=>e=.returned (.string ⟨abf l⟩)∧c7 B w w':=Any.Builder_String_any Tryz.ao3 Tryz.ao4 B b l w h a
def Tryz.apX:HK:=⟨λ|143=>161|219=>215|217=>259|225=>260|224=>261|267=>262|266=>284|314=>285|n=>n,λ|9=>9|3=>3|4=>4|5=>5|46=>255|146=>344|51=>261|n=>n,λ|1=>0|n=>n⟩
def Tryz.apY:Go.Proofs.Lays.n143 be Tryz.apX:={mixed:=by kernel_rfl,f143:=ab0 Tryz.func161 (bX J (by kernel_rfl)),f217:=ab0 Tryz.func259 (bX J (by kernel_rfl)),f219:=ab0 Tryz.func215 (bX J (by kernel_rfl)),f224:=ab0 Tryz.func261 (bX J (by kernel_rfl)),f225:=ab0 Tryz.func260 (bX J (by kernel_rfl)),f266:=ab0 Tryz.func284 (bX J (by kernel_rfl)),f267:=ab0 Tryz.func262 (bX J (by kernel_rfl)),f314:=ab0 Tryz.func285 (bX J (by kernel_rfl)),t3:=w8,a3:=Tryz.isAgg3,z3:=Tryz.sizeOf3,v3:=Tryz.zeroValue3,t4:=Tryz.underlying4,a4:=Tryz.isAgg4,z4:=Tryz.sizeOf4,v4:=Tryz.zeroValue4,t5:=w9,a5:=Tryz.isAgg5,z5:=Tryz.sizeOf5,v5:=Tryz.zeroValue5,t9:=uw,a9:=Tryz.isAgg9,z9:=Tryz.sizeOf9,v9:=Tryz.zeroValue9,t46:=Tryz.underlying255,a46:=Tryz.isAgg255,z46:=Tryz.sizeOf255,v46:=Tryz.zeroValue255,t51:=Tryz.underlying261,a51:=Tryz.isAgg261,z51:=Tryz.sizeOf261,v51:=Tryz.zeroValue261,t146:=Tryz.underlying344,a146:=Tryz.isAgg344,z146:=Tryz.sizeOf344,v146:=Tryz.zeroValue344,g1:=by kernel_rfl}
open Go.RowKit Go.Lib in
theorem Tryz.strings_Index(s sub:nT)(m:L)(w:bZ)(a:s.size<4294967281)(hm:w.cell? ⟨0,0,O⟩=J (.int .i64 m)):ez be 161 #[.string s,.string sub] w λe w'=>e=.returned (.int .i64 (Lib.index s.data.toList sub.data.toList))∧w'=w:=Any.strings_Index Tryz.apY s sub m w a hm
def Tryz.aqp:HK:=⟨λ|171=>163|243=>216|246=>263|283=>286|284=>287|285=>288|286=>289|129=>241|317=>302|318=>303|319=>304|320=>305|337=>317|338=>318|n=>n,λ|3=>3|9=>9|2=>2|4=>4|171=>346|0=>0|53=>299|37=>135|5=>5|173=>348|212=>372|51=>261|20=>20|213=>373|46=>255|232=>115|233=>391|n=>n,λ|17=>1|18=>4|19=>5|n=>n⟩
def Tryz.aqq:Go.Proofs.LaysM.n171 be Tryz.aqp:={mixed:=by kernel_rfl,f129:=ab0 Tryz.func241 (bX J (by kernel_rfl)),f171:=ab0 Tryz.func163 (bX J (by kernel_rfl)),f243:=ab0 Tryz.func216 (bX J (by kernel_rfl)),f246:=ab0 Tryz.func263 (bX J (by kernel_rfl)),f283:=ab0 Tryz.func286 (bX J (by kernel_rfl)),f284:=ab0 Tryz.func287 (bX J (by kernel_rfl)),f285:=ab0 Tryz.func288 (bX J (by kernel_rfl)),f286:=ab0 Tryz.func289 (bX J (by kernel_rfl)),f317:=ab0 Tryz.func302 (bX J (by kernel_rfl)),f318:=ab0 Tryz.func303 (bX J (by kernel_rfl)),f319:=ab0 Tryz.func304 (bX J (by kernel_rfl)),f320:=ab0 Tryz.func305 (bX J (by kernel_rfl)),f337:=ab0 Tryz.func317 (bX J (by kernel_rfl)),f338:=ab0 Tryz.func318 (bX J (by kernel_rfl)),t0:=Tryz.underlying0,a0:=Tryz.isAgg0,z0:=Tryz.sizeOf0,v0:=Tryz.zeroValue0,t2:=Tryz.underlying2,a2:=Tryz.isAgg2,z2:=Tryz.sizeOf2,v2:=Tryz.zeroValue2,t3:=w8,a3:=Tryz.isAgg3,z3:=Tryz.sizeOf3,v3:=Tryz.zeroValue3,t4:=Tryz.underlying4,a4:=Tryz.isAgg4,z4:=Tryz.sizeOf4,v4:=Tryz.zeroValue4,t5:=w9,a5:=Tryz.isAgg5,z5:=Tryz.sizeOf5,v5:=Tryz.zeroValue5,t9:=uw,a9:=Tryz.isAgg9,z9:=Tryz.sizeOf9,v9:=Tryz.zeroValue9,t20:=Tryz.underlying20,a20:=Tryz.isAgg20,z20:=Tryz.sizeOf20,v20:=Tryz.zeroValue20,t37:=pU,a37:=Tryz.isAgg135,z37:=Tryz.sizeOf135,v37:=Tryz.zeroValue135,t46:=Tryz.underlying255,a46:=Tryz.isAgg255,z46:=Tryz.sizeOf255,v46:=Tryz.zeroValue255,t51:=Tryz.underlying261,a51:=Tryz.isAgg261,z51:=Tryz.sizeOf261,v51:=Tryz.zeroValue261,t53:=Tryz.underlying299,a53:=Tryz.isAgg299,z53:=Tryz.sizeOf299,v53:=Tryz.zeroValue299,t171:=Tryz.underlying346,a171:=Tryz.isAgg346,z171:=Tryz.sizeOf346,v171:=Tryz.zeroValue346,t173:=Tryz.underlying348,a173:=Tryz.isAgg348,z173:=Tryz.sizeOf348,v173:=Tryz.zeroValue348,t212:=Tryz.underlying372,a212:=Tryz.isAgg372,z212:=Tryz.sizeOf372,v212:=Tryz.zeroValue372,t213:=Tryz.underlying373,a213:=Tryz.isAgg373,z213:=Tryz.sizeOf373,t232:=Tryz.underlying115,a232:=Tryz.isAgg115,z232:=Tryz.sizeOf115,v232:=Tryz.zeroValue115,t233:=Tryz.underlying391,a233:=Tryz.isAgg391,z233:=Tryz.sizeOf391,v233:=Tryz.zeroValue391,g17:=by kernel_rfl,g18:=by kernel_rfl,g19:=by kernel_rfl,i0:=by kernel_rfl,i2:=by kernel_rfl,i3:=by kernel_rfl,i4:=by kernel_rfl,i5:=by kernel_rfl,i9:=by kernel_rfl,i20:=by kernel_rfl,i37:=by kernel_rfl,i46:=by kernel_rfl,i51:=by kernel_rfl,i53:=by kernel_rfl,i171:=by kernel_rfl,i173:=by kernel_rfl,i212:=by kernel_rfl,i232:=by kernel_rfl,i233:=by kernel_rfl,m17:=by kernel_rfl,m18:=by kernel_rfl,m19:=by kernel_rfl}
open Go.RowKit Go.Sort Go.Lib in
theorem Tryz.strconv_Itoa(n:L)(b: -9223372036854775808≤n)(h1:n≤9223372036854775807)(w:bZ)(a:Lib.TabIs be w "internal/strconv.uint64pow10" .u64 Lib.pow10Tab):ez be 163 #[.int .i64 n] w λe w'=>e=.returned (.string ⟨abf (Lib.itoa n)⟩)∧∃k os,w'=grow (w.drewN k) os:=Any.strconv_Itoa Tryz.aqq n b h1 w a
def Tryz.aqy:HK:=⟨λ|161=>217|231=>264|227=>265|233=>266|235=>267|228=>290|197=>291|151=>292|260=>306|152=>307|137=>246|119=>319|224=>261|225=>260|217=>259|266=>284|n=>n,λ|9=>9|4=>4|3=>3|5=>5|117=>315|116=>314|0=>0|124=>318|105=>350|21=>21|119=>337|46=>255|139=>386|138=>385|n=>n,λ|3=>2|4=>3|n=>n⟩
def Tryz.aqz:Go.Proofs.Lays.n161 be Tryz.aqy:={mixed:=by kernel_rfl,f119:=ab0 Tryz.func319 (bX J (by kernel_rfl)),f137:=ab0 Tryz.func246 (bX J (by kernel_rfl)),f151:=ab0 Tryz.func292 (bX J (by kernel_rfl)),f152:=ab0 Tryz.func307 (bX J (by kernel_rfl)),f161:=ab0 Tryz.func217 (bX J (by kernel_rfl)),f197:=ab0 Tryz.func291 (bX J (by kernel_rfl)),f217:=ab0 Tryz.func259 (bX J (by kernel_rfl)),f224:=ab0 Tryz.func261 (bX J (by kernel_rfl)),f225:=ab0 Tryz.func260 (bX J (by kernel_rfl)),f227:=ab0 Tryz.func265 (bX J (by kernel_rfl)),f228:=ab0 Tryz.func290 (bX J (by kernel_rfl)),f231:=ab0 Tryz.func264 (bX J (by kernel_rfl)),f233:=ab0 Tryz.func266 (bX J (by kernel_rfl)),f235:=ab0 Tryz.func267 (bX J (by kernel_rfl)),f260:=ab0 Tryz.func306 (bX J (by kernel_rfl)),f266:=ab0 Tryz.func284 (bX J (by kernel_rfl)),t0:=Tryz.underlying0,a0:=Tryz.isAgg0,z0:=Tryz.sizeOf0,v0:=Tryz.zeroValue0,t3:=w8,a3:=Tryz.isAgg3,z3:=Tryz.sizeOf3,v3:=Tryz.zeroValue3,t4:=Tryz.underlying4,a4:=Tryz.isAgg4,z4:=Tryz.sizeOf4,v4:=Tryz.zeroValue4,t5:=w9,a5:=Tryz.isAgg5,z5:=Tryz.sizeOf5,v5:=Tryz.zeroValue5,t9:=uw,a9:=Tryz.isAgg9,z9:=Tryz.sizeOf9,v9:=Tryz.zeroValue9,t21:=Tryz.underlying21,a21:=Tryz.isAgg21,z21:=Tryz.sizeOf21,v21:=Tryz.zeroValue21,t46:=Tryz.underlying255,a46:=Tryz.isAgg255,z46:=Tryz.sizeOf255,v46:=Tryz.zeroValue255,t105:=Tryz.underlying350,a105:=Tryz.isAgg350,z105:=Tryz.sizeOf350,v105:=Tryz.zeroValue350,t116:=Tryz.underlying314,a116:=Tryz.isAgg314,z116:=Tryz.sizeOf314,t117:=Tryz.underlying315,a117:=Tryz.isAgg315,z117:=Tryz.sizeOf315,v117:=Tryz.zeroValue315,t119:=Tryz.underlying337,a119:=Tryz.isAgg337,z119:=Tryz.sizeOf337,t124:=Tryz.underlying318,a124:=Tryz.isAgg318,z124:=Tryz.sizeOf318,v124:=Tryz.zeroValue318,t138:=Tryz.underlying385,a138:=Tryz.isAgg385,z138:=Tryz.sizeOf385,v138:=Tryz.zeroValue385,t139:=Tryz.underlying386,a139:=Tryz.isAgg386,z139:=Tryz.sizeOf386,v139:=Tryz.zeroValue386,g3:=by kernel_rfl,g4:=by kernel_rfl}
def Tryz.pI(s a:nT)(w:bZ)(d:a.size<4294967281)(c:∀(j:U)b,(T a.data)[j]?=J b→b.toNat<128):ez be 217 #[.string s,.string a] w λe w'=>e=.returned (.string ⟨abf (Lib.trimLeftS (T s.data) (T a.data))⟩)∧c7 w.heap.size w w':=Any.strings_TrimLeft_laid Tryz.aqz (by kernel_rfl) s a w d c
def Tryz.arx:HK:=⟨λ|190=>143|125=>202|258=>201|128=>240|129=>241|302=>231|303=>232|304=>233|305=>234|306=>235|307=>236|308=>237|309=>238|310=>239|333=>270|329=>271|330=>272|334=>273|335=>274|336=>275|344=>295|n=>n,λ|31=>50|9=>9|3=>3|46=>255|0=>0|51=>261|53=>299|4=>4|183=>292|182=>291|131=>160|5=>5|218=>322|222=>326|228=>355|229=>166|n=>n,λ|n=>n⟩
def Tryz.adN:Go.Proofs.Lays.n190 be Tryz.arx:={mixed:=by kernel_rfl,f125:=Tryz.func202.trans (bX J (by kernel_rfl)),f128:=Tryz.func240.trans (bX J (by kernel_rfl)),f129:=Tryz.func241.trans (bX J (by kernel_rfl)),f190:=Tryz.func143.trans (bX J (by kernel_rfl)),f258:=Tryz.func201.trans (bX J (by kernel_rfl)),f302:=Tryz.func231.trans (bX J (by kernel_rfl)),f303:=Tryz.func232.trans (bX J (by kernel_rfl)),f304:=Tryz.func233.trans (bX J (by kernel_rfl)),f305:=Tryz.func234.trans (bX J (by kernel_rfl)),f306:=Tryz.func235.trans (bX J (by kernel_rfl)),f307:=Tryz.func236.trans (bX J (by kernel_rfl)),f308:=Tryz.func237.trans (bX J (by kernel_rfl)),f309:=Tryz.func238.trans (bX J (by kernel_rfl)),f310:=Tryz.func239.trans (bX J (by kernel_rfl)),f329:=Tryz.func271.trans (bX J (by kernel_rfl)),f330:=Tryz.func272.trans (bX J (by kernel_rfl)),f333:=Tryz.func270.trans (bX J (by kernel_rfl)),f334:=Tryz.func273.trans (bX J (by kernel_rfl)),f335:=Tryz.func274.trans (bX J (by kernel_rfl)),f336:=Tryz.func275.trans (bX J (by kernel_rfl)),f344:=Tryz.func295.trans (bX J (by kernel_rfl)),t0:=Tryz.underlying0,a0:=Tryz.isAgg0,z0:=Tryz.sizeOf0,v0:=Tryz.zeroValue0,t3:=w8,a3:=Tryz.isAgg3,z3:=Tryz.sizeOf3,v3:=Tryz.zeroValue3,t4:=Tryz.underlying4,a4:=Tryz.isAgg4,z4:=Tryz.sizeOf4,v4:=Tryz.zeroValue4,t5:=w9,a5:=Tryz.isAgg5,z5:=Tryz.sizeOf5,v5:=Tryz.zeroValue5,t9:=uw,a9:=Tryz.isAgg9,z9:=Tryz.sizeOf9,v9:=Tryz.zeroValue9,t31:=Tryz.underlying50,a31:=Tryz.isAgg50,z31:=Tryz.sizeOf50,v31:=Tryz.zeroValue50,t46:=Tryz.underlying255,a46:=Tryz.isAgg255,z46:=Tryz.sizeOf255,v46:=Tryz.zeroValue255,t51:=Tryz.underlying261,a51:=Tryz.isAgg261,z51:=Tryz.sizeOf261,v51:=Tryz.zeroValue261,t53:=Tryz.underlying299,a53:=Tryz.isAgg299,z53:=Tryz.sizeOf299,v53:=Tryz.zeroValue299,t131:=Tryz.underlying160,a131:=Tryz.isAgg160,z131:=Tryz.sizeOf160,v131:=Tryz.zeroValue160,t182:=Tryz.underlying291,a182:=Tryz.isAgg291,z182:=Tryz.sizeOf291,v182:=Tryz.zeroValue291,t183:=Tryz.underlying292,a183:=Tryz.isAgg292,z183:=Tryz.sizeOf292,v183:=Tryz.zeroValue292,t218:=Tryz.underlying322,a218:=Tryz.isAgg322,z218:=Tryz.sizeOf322,v218:=Tryz.zeroValue322,t222:=Tryz.underlying326,a222:=Tryz.isAgg326,z222:=Tryz.sizeOf326,v222:=Tryz.zeroValue326,t228:=Tryz.underlying355,a228:=Tryz.isAgg355,z228:=Tryz.sizeOf355,v228:=Tryz.zeroValue355,t229:=Tryz.underlying166,a229:=Tryz.isAgg166,z229:=Tryz.sizeOf166,v229:=Tryz.zeroValue166}
open Go.Sort Go.RowKit in
def Tryz.slices_Sort_string(a off cap:U)(b:M (M ao))(w:bZ)(f:Holds encStr w a off b.toArray)(c:a<w.heap.size)(d:b.length<4611686018427387904):ez be 143 #[.slice (J ⟨a,off,O⟩) b.length cap] w λe w'=>e=.returned (.tuple #[])∧∃n os,w'=grow (putRow encStr (N7 w n) a off (b.mergeSort λx y=>decide (x≤y)).toArray) os:=Any.slices_Sort_string Tryz.adN a off cap b w f c d
def Tryz.ary(p:Q ey)(cap:U)(w:bZ):ez be 143 #[.slice p 0 cap] w λe w'=>e=.returned (.tuple #[])∧w'=w:=Any.slices_Sort_string_none Tryz.adN p cap w
def Tryz.arR:HK:=⟨λ|138=>358|195=>359|218=>360|143=>161|219=>215|217=>259|225=>260|224=>261|267=>262|266=>284|314=>285|n=>n,λ|9=>9|3=>3|4=>4|5=>5|0=>0|46=>255|146=>344|51=>261|n=>n,λ|1=>0|n=>n⟩
def Tryz.arS:Go.Proofs.Lays.n138 be Tryz.arR:={mixed:=by kernel_rfl,f138:=ab0 Tryz.func358 (bX J (by kernel_rfl)),f143:=ab0 Tryz.func161 (bX J (by kernel_rfl)),f195:=ab0 Tryz.func359 (bX J (by kernel_rfl)),f217:=ab0 Tryz.func259 (bX J (by kernel_rfl)),f218:=ab0 Tryz.func360 (bX J (by kernel_rfl)),f219:=ab0 Tryz.func215 (bX J (by kernel_rfl)),f224:=ab0 Tryz.func261 (bX J (by kernel_rfl)),f225:=ab0 Tryz.func260 (bX J (by kernel_rfl)),f266:=ab0 Tryz.func284 (bX J (by kernel_rfl)),f267:=ab0 Tryz.func262 (bX J (by kernel_rfl)),f314:=ab0 Tryz.func285 (bX J (by kernel_rfl)),t0:=Tryz.underlying0,a0:=Tryz.isAgg0,z0:=Tryz.sizeOf0,v0:=Tryz.zeroValue0,t3:=w8,a3:=Tryz.isAgg3,z3:=Tryz.sizeOf3,v3:=Tryz.zeroValue3,t4:=Tryz.underlying4,a4:=Tryz.isAgg4,z4:=Tryz.sizeOf4,v4:=Tryz.zeroValue4,t5:=w9,a5:=Tryz.isAgg5,z5:=Tryz.sizeOf5,v5:=Tryz.zeroValue5,t9:=uw,a9:=Tryz.isAgg9,z9:=Tryz.sizeOf9,v9:=Tryz.zeroValue9,t46:=Tryz.underlying255,a46:=Tryz.isAgg255,z46:=Tryz.sizeOf255,v46:=Tryz.zeroValue255,t51:=Tryz.underlying261,a51:=Tryz.isAgg261,z51:=Tryz.sizeOf261,v51:=Tryz.zeroValue261,t146:=Tryz.underlying344,a146:=Tryz.isAgg344,z146:=Tryz.sizeOf344,v146:=Tryz.zeroValue344,g1:=by kernel_rfl}
open Go.RowKit Go.Lib in
def Tryz.strings_Count_one(s:nT)(c:ao)(w:bZ):ez be 358 #[.string s,.string ⟨#[c]⟩] w λe w'=>e=.returned (.int .i64 (Lib.countByte (T s.data) c))∧w'=w:=Any.strings_Count_one Tryz.arS s c w
end
end Go.Proofs
namespace Go.Proofs.YtgbmhohlapmgbaaGreatDoor.vx
noncomputable section
open Go Go.RowKit Go.Proofs
def sizeBuilder:(be.info? 137).map (·.size)=J 2:=by kernel_rfl
def liesBuilder:liesAt be be.depth 137 (2/be.cellsOf 137) 0 137 1=W:=by kernel_rfl
set_option maxHeartbeats 1000000 in
set_option maxRecDepth 100000 in
def ao5(b:U)(w:bZ)(c:ve w ⟨b,0,O⟩=J (.pointer (J ⟨b,0,O⟩))):ez be 140 #[.pointer (J ⟨b,0,O⟩)] w λe w'=>e=.returned (.tuple #[])∧w'=w:=by let⟨j,a,_⟩:=pT.1 sizeBuilder;go_enter Tryz.func140,Tryz.ntmps140;go_wp2;rw[Lib.run_neq_ptr_same w _ Wz a];go_wp2;go_end0;exact⟨rfl,rfl⟩
set_option maxHeartbeats 1000000 in
set_option maxRecDepth 100000 in
def ao6(b:U)(w:bZ)(g:ve w ⟨b,0,O⟩=J (.pointer O))(a:w.shape? b=J (137,2))(f:adB w ⟨b,0,O⟩=I):ez be 140 #[.pointer (J ⟨b,0,O⟩)] w λe w'=>e=.returned (.tuple #[])∧w'=acV w ⟨b,0,O⟩ (.pointer (J ⟨b,0,O⟩)):=by let⟨j,d,c⟩:=pT.1 sizeBuilder;go_enter Tryz.func140,Tryz.ntmps140;go_wp2;rw[Lib.run_to_unsafe w ⟨b,0,O⟩ Wz WA d (by rw[c];decide) a (Nat.zero_lt_succ 1)];simp only[pV];rw[o7];go_wp2;rw[run_callFunc_extern Tryz.func197 (by kernel_rfl) (by kernel_rfl) (by kernel_rfl) (e:=aAf) (by kernel_rfl)];rw[Lib.run_noEscape];simp only[pV];rw[o7];go_wp2;rw[Lib.run_from_unsafe w ⟨b,0,O⟩ WA Wz d a liesBuilder];simp only[pV];rw[o7];go_wp2;go_end0;exact⟨rfl,rfl⟩
def ao7(B b:U)(a:M aJ)(w:bZ)(h:xa 137 5 B b a w):ez be 140 #[.pointer (J ⟨b,0,O⟩)] w λe w'=>e=.returned (.tuple #[])∧(WB 137 5 B b (.pointer (J ⟨b,0,O⟩)) a w'∧c7 B w w'):=by
 rcases h with h|h
 refine(ao6 b w h.cell0 h.shape h.frozen0).mono ?_;rintro e w' ⟨rfl,rfl⟩;exact⟨rfl,h.used _,(m9 B w).setCell (p:=⟨b,0,O⟩) h.1 _⟩;refine(ao5 b w h.cell0).mono ?_;rintro e w' ⟨rfl,rfl⟩;exact⟨rfl,h,m9 B _⟩
def infoByte:(be.info? 5).map (λi=>(i.zero,i.size,i.bytes))=J (J (.int .u8 0),1,1):=by kernel_rfl
set_option maxHeartbeats 2000000 in
set_option maxRecDepth 100000 in
def writeString(B b:U)(l:M aJ)(s:nT)(w:bZ)(h:xa 137 5 B b l w)(y:Y l+s.size≤140737488355328)(D:B≤w.heap.size):
  ez be 84 #[.pointer (J ⟨b,0,O⟩),.string s] w λe w'=>e=.returned (.tuple #[.int .i64 s.size,.nilIface])∧(WB 137 5 B b (.pointer (J ⟨b,0,O⟩)) (l++Lib.strCells s) w'∧c7 B w w'):=by
 obtain⟨E,hi,o,q,r⟩:=info_parts infoByte
 go_enter Tryz.func84,Tryz.ntmps84
 go_wp2_with (go_at_call 140;refine(ao7 B b l _ h).mono ?_)
 rintro e m ⟨rfl,h1,j⟩
 obtain⟨z,v,d,i,t⟩:=h1
 have c0:ve m ⟨b,0,O⟩=J (.pointer (J ⟨b,0,O⟩)):=by rw[WC d];rfl
 have c1:ve m ⟨b,1,O⟩=J v:=by rw[WC d];rfl
 go_wp2_with (at_builtin;refine Lib.wpList_append_own_string _ rfl _ _ 135 9 rfl B 5 E pU uw hi o q r _ _ _ rfl i s rfl ?c3 ?c4 ?c5 ?_)
 case c3=>unfold maxLen;omega
 case c4=>omega
 case c5=>have:=adY j;omega
 intro F n a c _
 have u:b<m.heap.size:=by
  rcases js b m.heap.size with x|x
  ·exact x
  ·simp[Array.getElem?_eq_none x]at d
 have f:n.heap[b]?=J (.cells #[.pointer (J ⟨b,0,O⟩),v] 137 (0,0)):=by
  rw[c.block b u (λe=>t e.symm)]
  exact d
 have d0:ve n ⟨b,0,O⟩=J (.pointer (J ⟨b,0,O⟩)):=by rw[WC f];rfl
 have d1:ve n ⟨b,1,O⟩=J v:=by rw[WC f];rfl
 have f1:adB n ⟨b,1,O⟩=I:=Lib.frozen_of_heap f 1
 obtain⟨A,C,cap,rfl⟩:∃A C cap,F=.slice A C cap:=by
  rcases a.2 with⟨hv,_⟩|⟨g,cap,G,hv,_⟩
  ·exact⟨_,_,_,hv⟩
  ·exact⟨_,_,_,hv⟩
 go_wp2
 go_ret2
 refine⟨rfl,?_,?_⟩
 ·exact Lib.BuilderAt.put (T:=137) (e:=5) z f (bs':=l++Lib.strCells s) (by simpa[Lib.strCells_length]using a) (by decide)
 ·exact(j.grown c (by have:=adY j;omega) (λk hk=>(i.lt k hk).1)).setCell (p:=⟨b,1,O⟩) z _
def mP(g:U→M ao):U→M ao|0=>[]|k+1=>mP g k++g k
def ao8(g:U→M ao):∀{a b:U},a≤b→Y (mP g a)≤Y (mP g b):=by
 intro a b h;induction h with|refl=>exact dR _|step _ c=>simp only[mP,lg];omega
def acN{T e:bq}{B b:U}{p:aJ}{f:M aJ}{w:bZ}(h:WB T e B b p f w)(o:Obj):WB T e B b p f (ac2 w o):=by have c:=h.lt;let⟨g,v,i,a,d⟩:=h;exact⟨g,v,ab0 (HL w o b c) i,a.alloc o,d⟩
def ao9{T e:bq}{B b:U}{a:M aJ}{w:bZ}(h:xa T e B b a w)(o:Obj):xa T e B b a (ac2 w o):=h.elim (λh=>.inl (acN h o)) (λh=>.inr (acN h o))
set_option maxHeartbeats 2000000 in
set_option maxRecDepth 100000 in
def apa(n:L)(ad:ey)(len cap:U)(hsp:ad.spot=O)(u:U→az)(ky' g:U→M ao)(w:bZ)(hlc:len≤cap)(hln:len<4611686018427387904) (h0:∀k,k<len→ve w ⟨ac6 ad,ad.off+k*3,O⟩=J (.bool (u k)))(h1:∀k,k<len→ve w ⟨ac6 ad,ad.off+k*3+1,O⟩=J (.string ⟨abf (ky' k)⟩))(h2:∀k,k<len→ve w ⟨ac6 ad,ad.off+k*3+2,O⟩=J (.string ⟨abf (g k)⟩)) (hb:ac6 ad<w.heap.size)(azc:Y (mP g len)≤140737488355328):ez be 44 #[.agg #[.int .i64 n,.slice (J ad) len cap]] w λe w'=>e=.returned (.string ⟨abf (mP g len)⟩)∧c7 w.heap.size w w':=by
 obtain⟨bl,off,sp⟩:=ad;subst hsp;go_enter Tryz.func44,Tryz.ntmps44;go_wp2;go_loopw [9] (λi wr=>∃k:U,k≤len∧i=.int .i64 k∧xa 137 5 (w.heap.size+1) (w.heap.size+1) (N6 (mP g k)) wr∧c7 w.heap.size w wr∧w.heap.size+1<wr.heap.size) (λi _=>len-G (intOf i))
 case atStart=>
  have hf:=ayL 137 5 (ac2 w (.cells #[.int .i64 n,.slice (J ⟨bl,off,O⟩) len cap] 48));have e1:(ac2 w (.cells #[.int .i64 n,.slice (J ⟨bl,off,O⟩) len cap] 48)).heap.size=w.heap.size+1:=by simp
  rw[e1]at hf;exact⟨0,fV _,rfl,hf,adM (adM (m9 _ w) (dR _) _) (by simp) _,by simp⟩
 case round=>
  obtain⟨k,hk,rfl,hI',hbw,hsz⟩:=hrel;by_cases hlt:k<len
  ·have c0:=ab0 (hbw.cell (p:=⟨bl,off+k*3,O⟩) hb) (h0 k hlt);have c1:=ab0 (hbw.cell (p:=⟨bl,off+k*3+1,O⟩) hb) (h1 k hlt);have c2:=ab0 (hbw.cell (p:=⟨bl,off+k*3+2,O⟩) hb) (h2 k hlt);have hI2:=ao9 hI' (.cells #[.bool (u k),.string ⟨abf (ky' k)⟩,.string ⟨abf (g k)⟩] 59);have hl:=ao8 g (show k+1≤len by omega);simp only[mP,lg]at hl;go_wp2_with (go_at_call 84;refine(writeString (w.heap.size+1) (w.heap.size+1) _ _ _ hI2 (by grind [Lib.size_eq,Lib.byteCells_length]) (uy (Nat.le_of_lt hsz) (by simp))).mono ?_);rintro e W1 ⟨rfl,hW1,b1⟩;have hW2:xa 137 5 (w.heap.size+1) (w.heap.size+1) (N6 (mP g (k+1))) W1:=(by rw[Lib.strCells_eq,←Lib.byteCells_append]at hW1;exact Or.inr hW1);have xG:c7 w.heap.size w W1:=ad3 (adM hbw (by omega) _) (b1.mono (ahQ _));have hs1:w.heap.size+1<W1.heap.size:=(by have:=adY b1;simp at this;omega);go_wp2;go_roundw;case rel=>exact⟨k+1,hlt,by go_num,hW2,xG,hs1⟩
   case measure=>simp[intOf];omega
  ·obtain rfl:k=len:=(by omega);go_wp2_with (go_at_call 85;refine(Tryz.Builder_String_any (w.heap.size+1) (w.heap.size+1) (mP g k) _ hI' (by omega)).mono ?_);rintro e W1 ⟨rfl,b1⟩;go_wp2;go_ret;exact⟨rfl,ad3 hbw (b1.mono (ahQ _))⟩
def Hd(p:Prop):Prop:=p
def Hd.out{p:Prop}(h:Hd p):p:=h
set_option maxHeartbeats 2000000 in
set_option maxRecDepth 100000 in
def apb(n:L)(ad:Q ey)(len cap:U)(hl:Hd (len=0))(x:M ao)(hx:Hd (x=[]))(w:bZ):
  ez be 44 #[.agg #[.int .i64 n,.slice ad len cap]] w λe w'=>e=.returned (.string ⟨abf x⟩)∧c7 w.heap.size w w':=by
 go_enter Tryz.func44,Tryz.ntmps44
 go_wp2
 go_loopw [9] (λi wr=>∃k:U,k≤len∧i=.int .i64 k∧xa 137 5 (w.heap.size+1) (w.heap.size+1) (N6 x) wr∧c7 w.heap.size w wr∧w.heap.size+1<wr.heap.size) (λi _=>0)
 case atStart=>
  have hf:=ayL 137 5 (ac2 w (.cells #[.int .i64 n,.slice ad len cap] 48))
  have e1:(ac2 w (.cells #[.int .i64 n,.slice ad len cap] 48)).heap.size=w.heap.size+1:=by simp
  rw[e1]at hf
  have hf:xa 137 5 (w.heap.size+1) (w.heap.size+1) (N6 x) (ac2 (ac2 w (.cells #[.int .i64 n,.slice ad len cap] 48)) (.cells #[.pointer O,.slice O 0 0] 137)):=by rw[hx.out];exact hf
  exact⟨0,fV _,rfl,hf,adM (adM (m9 _ w) (dR _) _) (by simp) _,by simp⟩
 case round=>
  obtain⟨k,hk,rfl,hI',hbw,hsz⟩:=hrel
  obtain rfl:k=len:=by have:=hl.out;omega
  have hlt:¬k<k:=Nat.lt_irrefl k
  have hxl:Y x≤140737488355328:=by rw[hx.out];exact fV _
  go_wp2_with (go_at_call 85;refine(Tryz.Builder_String_any (w.heap.size+1) (w.heap.size+1) x _ hI' (by omega)).mono ?_)
  rintro e W1 ⟨rfl,b1⟩
  go_wp2
  go_ret
  exact⟨rfl,ad3 hbw (b1.mono (ahQ _))⟩
def apc(n:L)(c:Q ey)(a off:U)(len cap:U)(d:0<len→c=J ⟨a,off,O⟩)(u:U→az)(i g:U→M ao)(w:bZ)(f:len≤cap)(h:len<4611686018427387904) (j:∀k,k<len→ve w ⟨a,off+k*3,O⟩=J (.bool (u k)))(h1:∀k,k<len→ve w ⟨a,off+k*3+1,O⟩=J (.string ⟨abf (i k)⟩))(h2:∀k,k<len→ve w ⟨a,off+k*3+2,O⟩=J (.string ⟨abf (g k)⟩)) (l:0<len→a<w.heap.size)(b:Y (mP g len)≤140737488355328):ez be 44 #[.agg #[.int .i64 n,.slice c len cap]] w λe w'=>e=.returned (.string ⟨abf (mP g len)⟩)∧c7 w.heap.size w w':=by
 rcases Nat.eq_zero_or_pos len with m|hp
 rw[m];exact apb n c 0 cap rfl [] rfl w;obtain rfl:=d hp;exact apa n ⟨a,off,O⟩ len cap rfl u i g w f h j h1 h2 (l hp) b
section
open Go.Vs
def wz:M (M D)→Q (M (az×M ao×M ao))
 |[]=>J []|[.bool u,.bh k,.bh g]::r=>match wz r with|some l=>J ((u,k,g)::l)|none=>O
 |_::_=>O
def zf(l:M (az×M ao×M ao)):M ao:=l.flatMap λp=>p.2.2
def Gk:D→Q (M (M D))
 |.nil=>J []|.sl e xs=>match Nat.beq e 3 with|true=>J xs|false=>O
 |_=>O
def apg{w:bZ}{Z:U→Prop}{d:D}{rows:M (M D)}{v:aJ}(h:Gk d=J rows)(hd:bA w Z d v):∃(a:Q ey)(f off cap:U),v=.slice a (Y rows) cap∧(0<Y rows→a=J ⟨f,off,O⟩∧Z f)∧Y rows≤cap∧∀(k:U)r,rows[k]?=J r→fB w Z r f (off+k*3):=by
 unfold Gk at h;split at h;cases h;exact⟨O,0,0,0,hd,λh=>cO h (Nat.lt_irrefl 0),dR _,λk r g=>by simp at g⟩;split at h;rename_i e xs i;cases h;cases Nat.eq_of_beq_eq_true i;let⟨a,cap,j,c,l,m⟩:=(bA.ik (e:=3) rfl).1 hd;refine⟨J a,ac6 a,a.off,cap,j,λp=>?_,l,λk r g=>(m.aE g).2⟩;rcases c with c|⟨c,n⟩
 omega;exact⟨by let⟨b,o,q⟩:=a;cases c;rfl,n⟩;cases h;cases h
def zg:rj
 |[.one _],_=>O|[.agg [.d (.int .i64 _),.d dd]],[]=>match(match Gk dd with|some rows=>wz rows|none=>O)with
  |some l=>match gN (Y l) 4611686018427387903,gN (Y (zf l)) 140737488355328 with|true,W=>J {v:=.one (.d (.bh (zf l))),aI:=[]}|_,_=>O
  |none=>O
 |_,_=>O
def acP:∀{rows:M (M D)}{l:M (az×M ao×M ao)},wz rows=J l→Y rows=Y l∧∀(k:U)p,l[k]?=J p→rows[k]?=J [.bool p.1,.bh p.2.1,.bh p.2.2]|[],l,h=>by simp only[wz,nU]at h;grind|x::xs,l,h=>by unfold wz at h;split at h;rename_i heq;cases heq;rename_i u k g r heq;cases heq;split at h;rename_i b a;cases h;let⟨h1,h2⟩:=acP a;grind;cases h;cases h
def acQ(l:M (az×M ao×M ao)):∀k,k≤l.length→mP (λi=>((l[i]?).getD default).2.2) k=zf (l.take k)|0,_=>by simp[mP,zf]|k+1,h=>by have:l[k]?=J l[k]:=eM (by omega);have e:l.take (k+1)=l.take k++[l[k]]:=(List.take_append_getElem (by omega)).symm;rw[mP,acQ l k (by omega),e];simp only[zf,xb,List.flatMap_cons,List.flatMap_nil,List.append_nil,this,fL]
def aph:iD be 44 zg:=by
 intro args aI r f w vals β ω Z C D S a;unfold zg at f;split at f;cases f
 ·rename_i n dd;split at f
  ·rename_i l E;split at E;rotate_left;cases E;rename_i rows j;split at f;rename_i o q;cases f;have o:=wY o;have q:=wY q;let⟨g,s⟩:=acP E;have T:=a.args 0;obtain⟨ws,B,h1,h2,h3⟩:∃ws:bW aJ,vals.getD 0 undef=.agg ws∧aQ (λu c=>aR (cY be 0 w vals β ω Z) β Z (dm [.agg [.d (.int .i64 n),.d dd]] []) {tmps:=#[],defers:=[]} w c u) ws.toList [.d (.int .i64 n),.d dd]∧True∧True:=(by let⟨ws,B,V⟩:=T;exact⟨ws,B,V,trivial,trivial⟩);let⟨X⟩:=ws;match X,h1 with
   |[v0,v1],h1=>
    let⟨F,G,_⟩:=h1;have F:v0=.int .i64 n:=F;have G:bA w Z dd v1:=G;let⟨K,N,off,cap,Y,P,q3,q4⟩:=apg j G;subst F;subst Y;have m:vals=#[.agg #[.int .i64 n,.slice K rows.length cap]]:=by
     apply Array.ext';have:vals.toList.length=1:=(by simpa using C);match hv:vals.toList,this with|[v],_=>have:vals.getD 0 undef=v:=(by rw[Hq,←qV,hv];rfl);rw[this]at B;rw[B]
    subst m;have cells:∀k,k<rows.length→∃p,l[k]?=J p∧fB w Z [.bool p.1,.bh p.2.1,.bh p.2.2] N (off+k*3):=(by intro k hk;have t:k<l.length:=(by rw[←g];exact hk);exact⟨l[k],eM t,q4 k _ (s k l[k] (eM t))⟩);have R:=acQ l l.length (dR _);rw[ur]at R;have walk:=apc n K N off rows.length cap (λh=>(P h).1) (λi=>((l[i]?).getD default).1) (λi=>((l[i]?).getD default).2.1) (λi=>((l[i]?).getD default).2.2) w q3 (by omega) (λk hk=>by let⟨p,x,⟨v,y,z⟩,_⟩:=cells k hk;rw[y];simp only[x,fL];exact bX J z) (λk hk=>by let⟨p,x,_,⟨v,y,z⟩,_⟩:=cells k hk;rw[y];simp only[x,fL];exact bX J z) (λk hk=>by let⟨p,x,_,_,⟨v,y,z⟩,_⟩:=cells k hk;rw[show off+k*3+2=off+k*3+1+1 by omega,y];simp only[x,fL];exact bX J z) (λh=>a.dp _ (P h).2) (by grind);refine walk.mono ?_;rintro e w' ⟨rfl,A⟩;refine⟨_,_,_,_,rfl,BZ a D A.os A.tape A.output A.size (λb H _=>ady A b H) (K₀:=cY be 0 w #[] β ω Z) (β₀:=β) (Z₀:=Z) (s₀:=dm [] []) (a₀:={tmps:=#[],defers:=[]}) (w₀:=w) ?_ rfl rfl rfl⟩;refine⟨rfl,?_⟩;show N4 _=N4 _;rw[g,R]
   cases f
  cases f
 cases f
def api:lx be 44 zg:=qk Tryz.func44 (by kernel_rfl) rfl aph
end
section
open Go.Vs
def kU{vals:bW aJ}{l:M aJ}(a:vals.size=Y l)(h:∀i,i<Y l→vals.getD i undef=H l i undef):vals=abf l:=by apply Array.ext;simpa using a;intro i h1 h2;have:=h i (by omega);simp only[Hq,Array.getElem?_eq_getElem h1,jP,fL]at this;rw[eM (by omega)]at this;simpa using this
def acR:rj|[.one (.d (.bh s)),.one (.d (.int .u8 c))],[]=>J {v:=.one (.d (.int .i64 (fm s (G c).toUInt8))),aI:=[]}|_,_=>O
def apj:lx be 284 acR:=by
 intro args aI r b w vals β ω Z d f g a;unfold acR at b;split at b;rename_i s c;cases b;have hv:vals=#[.string ⟨abf s⟩,.int .u8 c]:=kU (l:=[.string ⟨abf s⟩,.int .u8 c]) d λi hi=>by
  match i,hi with|0,_=>exact(a.args 0).2|1,_=>exact(a.args 1).2
 subst hv;refine .inr ⟨.int .i64 (fm s (G c).toUInt8),w,_,_,Z,?_,BZ a f rfl rfl rfl (dR _) (λ_ _ _=>rfl) (K₀:=cY be 0 w #[] β ω Z) (β₀:=β) (Z₀:=Z) (s₀:=dm [] []) (a₀:={tmps:=#[],defers:=[]}) (w₀:=w) ⟨rfl,rfl⟩ rfl rfl rfl⟩;rw[run_callFunc_extern Tryz.func284 (by kernel_rfl) (by kernel_rfl) (by kernel_rfl) (e:=aAg) (by kernel_rfl)];rw[Lib.run_indexByteString];rfl;cases b
end
section
open Go.Sort
def SK(kd:U→L)(a:U→M ao):U→M (M ao)|0=>[]|k+1=>if kd k=5 then SK kd a k++[a k]else SK kd a k
def MZ(kd:U→L)(a:U→M ao):∀k,Y (SK kd a k)≤k|0=>dR _|k+1=>by have:=MZ kd a k;unfold SK;split<;>simp<;>omega
def adO:(be.info? 9).map (λi=>(i.zero,i.size,i.bytes))=J (J (.string ⟨#[]⟩),1,16):=by kernel_rfl
set_option maxHeartbeats 2000000 in
set_option maxRecDepth 100000 in
def arz(bl off len cap:U)(kd:U→L)(tx':U→M ao)(id:U→L)(p:Q ey)(w:bZ)(hln:len<4294967296)(hp:p=J ⟨bl,off,O⟩∨len=0)(hb:p=J ⟨bl,off,O⟩→0<len→bl<w.heap.size) (h0:∀k,k<len→ve w ⟨bl,off+k*3,O⟩=J (.int .i64 (kd k)))(h1:∀k,k<len→ve w ⟨bl,off+k*3+1,O⟩=J (.string ⟨abf (tx' k)⟩))(h2:∀k,k<len→ve w ⟨bl,off+k*3+2,O⟩=J (.int .i64 (id k))):
  ez be 92 #[.slice p len cap] w λe w'=>Below w.heap.size w w'∧∃v,e=.returned v∧((SK kd tx' len=[]∧v=.slice O 0 0)∨SK kd tx' len≠[]∧∃g c,v=.slice (J ⟨g,0,O⟩) (Y (SK kd tx' len)) c∧w.heap.size≤g∧Y (SK kd tx' len)≤c∧g<w'.heap.size∧
   ∀(j:U)s,((SK kd tx' len).mergeSort λx y=>decide (x≤y))[j]?=J s→ve w' ⟨g,j,O⟩=J (.string ⟨abf s⟩)):=by
 obtain⟨i0,hi,hz0,hz1,hz2⟩:=info_parts adO
 go_enter Tryz.func92,Tryz.ntmps92
 go_wp2
 go_loopw [3,8] (λv i wr=>∃k:U,k≤len∧i=.int .i64 k∧adK wr w.heap.size 9 1 v (Y (SK kd tx' k)) ((SK kd tx' k).map encStr)∧Below w.heap.size w wr∧(SK kd tx' k=[]→v=.slice O 0 0)) (λ_ i _=>len-G (intOf i))
 case atStart=>exact⟨0,fV _,rfl,World.ownsRow_nil _ _ _ _,m9 _ _,λ_=>rfl⟩
 case round=>
  obtain⟨k,hk,rfl,hown,hbw,hnil⟩:=hrel
  by_cases hlt:k<len
  ·obtain rfl:p=J ⟨bl,off,O⟩:=hp.resolve_right (by omega);have Ao:=hb rfl (by omega);have c0:=ab0 (hbw.cell (p:=⟨bl,off+k*3,O⟩) Ao) (h0 k hlt);have c1:=ab0 (hbw.cell (p:=⟨bl,off+k*3+1,O⟩) Ao) (h1 k hlt);have c2:=ab0 (hbw.cell (p:=⟨bl,off+k*3+2,O⟩) Ao) (h2 k hlt);by_cases O4:kd k=5
   ·go_wp2_with (first
      |(at_builtin;refine wpList_append_own _ rfl _ _ 50 rfl w.heap.size 9 i0 (.string ⟨#[]⟩) 1 16 Tryz.underlying50 hi hz0 hz1 hz2 rfl (by decide) _ _ _ rfl ((hown.alloc _).alloc _) ⟨wr.heap.size+1,0,O⟩ 1 1 [.string ⟨abf (tx' k)⟩] rfl rfl ?c1 ?c2 ?c3 ?c4 ?c5 ?_)|go_in)
    case c2=>rfl
    case c3=>have:=MZ kd tx' k;unfold maxLen;omega
    case c4=>have:=MZ kd tx' k;omega
    case c5=>have:=adY hbw;omega
    ·intro v' w1 hown' hgrow _;have xL:Below w.heap.size w w1:=(adM (adM hbw (by have:=adY hbw;omega) _) (by have:=adY hbw;simp;omega) _).grown hgrow (by have:=adY hbw;simp;omega) (λq hq=>(hown.lt q hq).1);have hs:SK kd tx' (k+1)=SK kd tx' k++[tx' k]:=(by simp[SK,O4]);have hown2:adK w1 w.heap.size 9 1 v' (Y (SK kd tx' (k+1))) ((SK kd tx' (k+1)).map encStr):=(by grind);clear hown' hgrow hown hnil c0 c1 c2;go_wp2;grind [Ct]
   ·have hs:SK kd tx' (k+1)=SK kd tx' k:=(by simp[SK,O4]);go_wp2;go_roundw;case rel=>exact⟨k+1,by omega,by simp,by rw[hs];exact hown.alloc _,adM hbw (by have:=adY hbw;omega) _,λh=>hnil (by rw[←hs];exact h)⟩
    grind [Ct]
  ·obtain rfl:k=len:=(by omega);by_cases hn:SK kd tx' k=[];·obtain rfl:=hnil hn;go_wp2_with (go_at_call 143;refine(Tryz.ary O 0 _).mono ?_);go_ret;simp_all
   ·rcases hown.2 with⟨rfl,h⟩|⟨g,c,cur,rfl,hbg,hg,hnc,hcm,hcs,htake⟩
    grind;·have hH:Holds encStr wr g 0 (abf (SK kd tx' k)):=(by intro j hj;have hj':j<Y (SK kd tx' k):=(by simpa using hj);refine⟨?_,?_⟩;have h1:((T cur).take (Y (SK kd tx' k)*1))[j]?=((SK kd tx' k).map encStr)[j]? :=(by rw[htake]);grind [er];simp[na,hg]);have M2:g<wr.heap.size:=(pR.1 hg).1;go_wp2_with (go_at_call 143;refine(Tryz.slices_Sort_string g 0 c (SK kd tx' k) _ hH M2 (by have:=MZ kd tx' k;omega)).mono ?_);rintro e W1 ⟨rfl,n,os,rfl⟩;go_wp2;go_ret;refine⟨?_,_,rfl,.inr ⟨hn,g,c,rfl,hbg,hnc,?_,?_⟩⟩;refine⟨hbw.os,hbw.tape,hbw.output,?_,λq hq=>?_⟩;have:=adY hbw;simp[grow,putRow,mapBlock,N7];omega;have hne:g≠q:=(by omega);have hql:q<wr.heap.size:=pW hq hbw.size;rw[←ady hbw q hq];grind [Sort.grow,Sort.putRow,Sort.mapBlock,N7];simp[grow,putRow,mapBlock,N7];omega;intro j s hj;have hjl:j<Y ((SK kd tx' k).mergeSort λx y=>decide (x≤y)):=(iO.1 hj).1;have h1:=cell?_putRow encStr (N7 wr n) g 0 (abf (SK kd tx' k)) (abf ((SK kd tx' k).mergeSort λx y=>decide (x≤y))) hH (by simp) j (by simpa using hjl);grind [Sort.grow,er]
end
def BY(B:U)(w:bZ)(l:M ao)(v:aJ):Prop:=∃a cs fz cap,v=.slice (J ⟨a,0,O⟩) (Y l) cap∧B≤a∧w.heap[a]?=J (.cells cs 5 fz)∧∀(i:U)x,l[i]?=J x→cs[i]?=J (.int .u8 x.toNat)
theorem BY.keep{B:U}{w w':bZ}{l:M ao}{v:aJ}(h:BY B w l v)(hk:∀(b:U)cs fz,w.heap[b]?=J (.cells cs 5 fz)→w'.heap[b]?=w.heap[b]?):BY B w' l v:=by let⟨a,cs,fz,cap,h1,h2,h3,c⟩:=h;exact⟨a,cs,fz,cap,h1,h2,by grind,c⟩
def RB(B g:U)(ps:M (ao×M ao))(w:bZ):Prop:=∃cs a,w.heap[g]?=J (.cells cs 342 (0,0))∧cs.size=257∧(∀c:ao,∃v,cs[c.toNat]?=J v∧match Vs.eZ ps c with|none=>v=.slice O 0 0|some l=>BY B w l v)∧cs[256]?=J a∧adK w B 9 1 a (Y ps) (ps.reverse.map λp=>.string ⟨#[p.1]⟩)
def M1:Cu=abf (ep 257 (sD O 0 0)):=by kernel_rfl
set_option maxHeartbeats 4000000 in
set_option maxRecDepth 1000000 in
def arL(b q o cap:U)(ps:M (ao×M ao))(x0 x1 x2 x3:aJ)(el:bq)(fz:U×U)(w:bZ)(m:U)(Z:ps.length=m)(hm:2≤m)(hm2:m≤1000)(hnd:(ps.map (·.1)).Nodup)(hcap:2*m≤cap) (hb:w.heap[b]?=J (.cells #[x0,x1,x2,x3,.slice (J ⟨q,o,O⟩) (2*m) cap] el fz)) (G:q<w.heap.size)(Ao:b<w.heap.size) (h0:∀(k:U)p,ps[k]?=J p→w.cell? ⟨q,o+2*k,O⟩=J (.string ⟨#[p.1]⟩))(h1:∀(k:U)p,ps[k]?=J p→w.cell? ⟨q,o+(2*k+1),O⟩=J (.string ⟨p.2.toArray⟩))(S:∀p∈ps,2≤p.2.length):ez be 255 #[.pointer (J ⟨b,0,O⟩)] w λe w'=>c7 w.heap.size w w'∧∃g,e=.returned (.iface 343 (.pointer (J ⟨g,0,O⟩)))∧w.heap.size≤g∧g<w'.heap.size∧RB w.heap.size g ps w':=by
 let⟨i0,hi,hz0,hz1,hz2⟩:=info_parts adO;have c4:w.cell? ⟨b,4,O⟩=J (.slice (J ⟨q,o,O⟩) (2*m) cap):=by simp[er,hb]
 have T:∀k,k<m→ps[k]?=J (ps[k]?.getD default):=λk hk=>by grind
 have a0:=h0 0 _ (T 0 (by omega));have azJ:(2*(m:L)==2)=I:=by simp;omega
 have hm3:¬(2*(m:L)=2):=by omega
 simp only[Nat.mul_zero,Nat.add_zero]at a0;go_enter Tryz.func255,Tryz.ntmps255;go_wp2;go_loopw [4,5] (λa i wr=>∃k:U,k≤m∧i=.int .i64 (2*k:U)∧a=.bool (decide (k=0))∧wr=w) (λ_ i _=>2*m-(intOf i).toNat);case atStart=>simp_all
 case round=>
  obtain⟨k,hk,rfl,rfl,rfl⟩:=hrel;by_cases hlt:k<m
  ·obtain⟨p,hp⟩:∃p,ps[k]?=J p:=⟨_,T k hlt⟩;have b0:=h0 k p hp;have b1:=h1 k p hp;have hp2:=S p (fK hp);have hne:((p.2.length:L) !=1)=W:=(by simp;omega);go_wp2
   ·go_roundw;case rel=>exact⟨k+1,by omega,by simp;omega,by simp,trivial⟩
    grind [Ct]
   grind
  ·obtain rfl:k=m:=(by omega);have hk0:decide (k=0)=I:=(by simp;omega);go_wp2;let⟨d,hmk,hown,H⟩:=run_make_own (P:=be) wr wr.heap.size 50 9 i0 (.string ⟨#[]⟩) 1 Tryz.underlying50 hi hz0 hz1 .i64 .i64 k (by rw[hz2];omega) (by unfold maxLen;omega) (dR _);rw[hmk];simp only[pV];rw[o7];go_wp2;rw[show(Cu.toList.set 256 (sD (J ⟨wr.heap.size,0,O⟩) 0 k))=((Cu.toList.set 256 (sD (J ⟨wr.heap.size,0,O⟩) 0 k)).toArray).toList from rfl,Go.run_storeCells_new (P:=be) d 342 Cu ((Cu.toList.set 256 (sD (J ⟨wr.heap.size,0,O⟩) 0 k)).toArray) (by kernel_rfl) (by simp) (by rw[M1];simp[Value.oneCell'])];simp only[pV];rw[Oper.upon_skip];go_wp2;obtain⟨r,TU⟩:∃x,x=wr:=⟨_,rfl⟩;subst TU;have hgs:d.heap.size<(d.alloc (.cells ((Cu.toList.set 256 (sD (J ⟨r.heap.size,0,O⟩) 0 k)).toArray) 342)).heap.size:=(by simp);go_loopw [12] (λi wv=>∃B y,ps=B++y∧i=.int .i64 (2*(B.length:L)-2)∧c7 r.heap.size r wv∧RB r.heap.size d.heap.size y wv∧d.heap.size<wv.heap.size) (λi _=>(intOf i+2).toNat);case atStart=>refine⟨ps,[],by simp,by rw[Z],?_,?_,by simp⟩;exact((m9 r.heap.size r).grown H (dR _) (λq G=>by cases G)).alloc (by have:=H.size;omega) _;refine⟨(Cu.toList.set 256 (.slice (J ⟨r.heap.size,0,O⟩) 0 k)).toArray,_,by simp[World.alloc,-World.alloc_eq],by simp[M1],λc=>⟨.slice O 0 0,?_,rfl⟩,by simp[M1],hown.alloc _⟩;have:=c.toNat_lt;rw[M1,HA,List.getElem?_set_ne (by omega),List.getElem?_replicate];simp;omega
   case round=>
    obtain⟨B,y,f,rfl,n,⟨cs,tv,hg,hcs,K,ht,C⟩,M2⟩:=hrel;rcases List.eq_nil_or_concat B with rfl|⟨B,p,rfl⟩
    ·go_wp2;go_ret;exact⟨n,_,rfl,by have:=H.size;omega,M2,cs,tv,by simpa using hg,hcs,by simpa[f]using K,ht,by simpa[f]using C⟩
    ·rw[ayM,List.append_assoc,List.singleton_append]at f;have hk:ps[B.length]?=J p:=(by rw[f];simp);have azM:B.length<k:=(by rw[←Z,f];simp);have b0:=(n.cell (p:=⟨q,o+2*B.length,O⟩) G).trans (h0 _ p hk);have b1:=(n.cell (p:=⟨q,o+(2*B.length+1),O⟩) G).trans (h1 _ p hk);have hp2:=S p (fK hk);have hno:Vs.eZ y p.1=O:=(by rw[f,mj,eU]at hnd;have h2:=(wW.1 (List.nodup_append.1 hnd).2.1).1;unfold Vs.eZ;rw[List.find?_eq_none.2 (λx hx h=>h2 (mh.2 ⟨x,hx,by simpa using h⟩))]);let⟨v0,lv,hv1⟩:=K p.1;rw[hno]at hv1;subst hv1;have hpl:p.1.toNat<256:=p.1.toNat_lt;have cg:wr.cell? ⟨d.heap.size,p.1.toNat,O⟩=J (.slice O 0 0):=(by simp[er,hg,lv]);have cg':wr.cell? ⟨d.heap.size,((⟨#[p.1]⟩:nT)[0]'(show 0<1 by decide)).toNat,O⟩=J (.slice O 0 0):=cg;have arM:((⟨#[p.1]⟩:nT)[0]'(show 0<1 by decide)).toNat<256:=hpl;have ct:wr.cell? ⟨d.heap.size,256,O⟩=J tv:=(by simp[er,hg,ht]);have hfz:∀j,wr.frozen? ⟨d.heap.size,j,O⟩=I:=(by intro j;simp[na,hg]);have hi2:2*(((B++[p]).length:U):L)-2=((2*B.length:U):L):=(by simp;omega);rw[ayM,hi2];go_wp2;have hb0:((⟨#[p.1]⟩:nT)[0]'(show 0<1 by decide))=p.1:=rfl;simp only[hb0];rw[Go.Lib.run_eql_slice_nil_nil wr 0 0 pU];simp only[pV];rw[o7];go_wp2;have sR:=run_convert_bytes_back (P:=be) (wr.alloc (.cells #[.int .u8 p.1.toNat] 5)) 135 9 5 ⟨wr.heap.size,0,O⟩ 1 [p.1] pU w9 uw (by simp_all [Addr.add]);simp only[List.length_singleton]at sR;rw[sR];simp only[pV];rw[o7]
     go_wp2_with (first
      |(at_builtin;refine wpList_append_own _ rfl _ _ 50 rfl r.heap.size 9 i0 (.string ⟨#[]⟩) 1 16 Tryz.underlying50 hi hz0 hz1 hz2 rfl (by decide) _ _ _ rfl ((C.alloc _).alloc _) ⟨wr.heap.size+1,0,O⟩ 1 1 [.string ⟨#[p.1]⟩] rfl rfl ?c1 ?c2 ?c3 ?c4 ?c5 ?_)|go_in)
     case c1=>
      intro j u hj;match j,hj with|0,hj=>simp_all [Addr.add]
     case c2=>intro u hu;simp at hu;subst hu;rfl
     case c3=>have:=bX wX f;simp at this;unfold maxLen;omega
     case c4=>have:=bX wX f;simp at this;omega
     case c5=>have:=n.size;simp;omega
     intro v' w2 s l _;have hne:J d.heap.size≠tv.ownBlock:=by
      intro h;rcases C.2 with⟨rfl,_⟩|⟨gg,V,cur,rfl,_,h9,_⟩
      cases h;simp_all [N8]
     have N:w2.heap[d.heap.size]?=J (.cells cs 342 (0,0)):=(by rw[l.block _ (by simp;omega) hne,HL _ _ _ (by simp;omega),HL _ _ _ M2];exact hg);have azO:w2.cell? ⟨d.heap.size,256,O⟩=J tv:=(by simp[er,N,ht]);have f256:∀j,w2.frozen? ⟨d.heap.size,j,O⟩=I:=(by intro j;simp[na,N]);have IJ:wr.heap.size+2≤w2.heap.size:=(by have:=l.size;simp at this;omega);obtain⟨z,A,oT,rfl⟩:∃z A oT,v'=.slice z A oT:=by
      rcases s.2 with⟨hv,_⟩|⟨_,_,_,hv,_⟩
      exact⟨_,_,_,hv⟩;simp_all
     let⟨g3,o3⟩:=Vs.mB (o:=256) (v:=.slice z A oT) N;have z3:(w2.setCell ⟨d.heap.size,256,O⟩ (.slice z A oT)).heap.size=w2.heap.size:=(by simp[World.setCell]);have hs2:(lP p.2.toArray).size=p.2.length:=(by simp[Cm]);have g4:(WF (w2.setCell ⟨d.heap.size,256,O⟩ (.slice z A oT)) 5 ⟨p.2.toArray⟩).heap[d.heap.size]?=J (.cells (cs.setIfInBounds 256 (.slice z A oT)) 342 (0,0)):=(by rw[ayN _ _ _ _ (by rw[z3];omega)];exact g3);have e4:(WF (w2.setCell ⟨d.heap.size,256,O⟩ (.slice z A oT)) 5 ⟨p.2.toArray⟩).cell? ⟨d.heap.size,p.1.toNat,O⟩=J (.slice O 0 0):=(by simp only[er,g4];rw[N9 (by omega)];exact lv);have f4:(WF (w2.setCell ⟨d.heap.size,256,O⟩ (.slice z A oT)) 5 ⟨p.2.toArray⟩).frozen? ⟨d.heap.size,p.1.toNat,O⟩=I:=(by simp[na,g4]);go_wp2;rw[Lib.run_convert_string_bytes (P:=be) _ 9 135 5 ⟨p.2.toArray⟩ uw pU w9];simp only[pV];rw[o7];go_wp2;generalize Y:(WF (w2.setCell ⟨d.heap.size,256,O⟩ (.slice z A oT)) 5 ⟨p.2.toArray⟩).setCell ⟨d.heap.size,p.1.toNat,O⟩ (.slice (J ⟨w2.heap.size,0,O⟩) p.2.length (grownCap (w2.setCell ⟨d.heap.size,256,O⟩ (.slice z A oT)) p.2.length 0 5))=F;let⟨g5,o5⟩:=Vs.mB (o:=p.1.toNat) (v:=.slice (J ⟨w2.heap.size,0,O⟩) p.2.length (grownCap (w2.setCell ⟨d.heap.size,256,O⟩ (.slice z A oT)) p.2.length 0 5)) g4;rw[Y]at g5 o5;have zF:F.heap.size=w2.heap.size+1:=(by rw[←Y];simp[World.setCell,Lib.bytesWorld_size]);have R:w2.grownBy F (J d.heap.size):=(by refine⟨by rw[←Y];rfl,by rw[←Y];rfl,by rw[←Y];rfl,by omega,λq G hqn=>?_⟩;have hqg:q≠d.heap.size:=λh=>hqn (by rw[h]);rw[o5 q hqg,ayN _ _ _ _ (by rw[z3];exact G),o3 q hqg]);have X:c7 r.heap.size r w2:=((n.alloc (by have:=n.size;omega) _).alloc (by have:=n.size;simp;omega) _).grown l (by have:=n.size;simp;omega) (λq G=>(C.lt q G).1);have D:∀(b:U)cs fz,wr.heap[b]?=J (.cells cs 5 fz)→F.heap[b]?=wr.heap[b]? :=by
      intro q cs' fz hq5;have hql:q<wr.heap.size:=(pR.1 hq5).1;have h1:q≠d.heap.size:=(by rintro rfl;simp_all);have h2:J q≠tv.ownBlock:=by
       intro h;rcases C.2 with⟨rfl,_⟩|⟨gg,V,cur,rfl,_,h9,_⟩
       cases h;simp only[N8,nU]at h;simp_all
      rw[R.block q (by omega) (by simpa using h1),l.block q (by simp;omega) h2,HL _ _ _ (by simp;omega),HL _ _ _ hql]
     have t:w2.ownsRow r.heap.size 9 1 (.slice z A oT) (y.length+1) ((p::y).reverse.map λp=>.string ⟨#[p.1]⟩):=(by simpa using s);have E:F.ownsRow r.heap.size 9 1 (.slice z A oT) (y.length+1) ((p::y).reverse.map λp=>.string ⟨#[p.1]⟩):=by
      refine t.kept R (.inr ?_);intro h;rcases t.2 with⟨hv,_⟩|⟨gg,V,cur,hv,_,h9,_⟩
      rw[hv]at h;cases h;rw[hv]at h;simp only[N8,nU]at h;rw[h,N]at h9;cases h9
     have TV:RB r.heap.size d.heap.size (p::y) F:=(by refine⟨_,_,g5,by simpa using hcs,λc=>?_,?_,E⟩;by_cases hc:p.1=c;subst hc;refine⟨_,by rw[ayO (by simp;omega)],?_⟩;have:Vs.eZ (p::y) p.1=J p.2:=(by simp[Vs.eZ]);rw[this];refine⟨w2.heap.size,_,_,_,rfl,by have:=X.size;omega,by rw[o5 _ (by omega),←z3];exact Lib.bytesWorld_at_new _ _ _,λi x hx=>?_⟩;have hil:i<p.2.length:=(iO.1 hx).1;simp only[Lib.bytesCells];rw[Array.getElem?_append_left (by simpa using hil)];simp[hx];have TW:p.1.toNat≠c.toNat:=λh=>hc (UInt8.toNat_inj.1 h);have xF:=c.toNat_lt;let⟨v,q1,q2⟩:=K c;refine⟨v,by rw[N9 TW,N9 (by omega)];exact q1,?_⟩;have:Vs.eZ (p::y) c=Vs.eZ y c:=(by simp[Vs.eZ,hc]);rw[this];split;rename_i h;rw[h]at q2;exact q2;rename_i h;rw[h]at q2;exact q2.keep D;rw[N9 (by omega),ayO (by omega)]);have hBF:c7 r.heap.size r F:=X.grown R (by have:=X.size;omega) (λq G=>by cases G;have:=H.size;omega);clear Y g5 o5 R D t E K s;go_roundw;case rel=>exact⟨B,p::y,f,rfl,hBF,TV,by omega⟩
     case measure=>simp[intOf];omega
def tS(ps:M (ao×M ao))(c:ao):M ao:=X (Vs.eZ ps c) [c]
def ia(ps:M (ao×M ao))(s:M ao):M ao:=s.flatMap (tS ps)
def gB(ps:M (ao×M ao))(s:M ao):U:=(s.map λc=>X ((Vs.eZ ps c).map λl=>Y l-1) 0).sum
def gA(s:M ao)(l:M (ao×M ao)):U:=(l.map λp=>s.count p.1*(Y p.2-1)).sum
def arT(ps:M (ao×M ao))(s:M ao)(c:ao):gB ps (s++[c])=gB ps s+X ((Vs.eZ ps c).map λl=>Y l-1) 0:=by simp[gB]
def arU(ps:M (ao×M ao))(s:M ao)(c:ao):ia ps (s++[c])=ia ps s++tS ps c:=by simp[ia]
theorem M3{ps:M (ao×M ao)}{c:ao}{l:M ao}(h:Vs.eZ ps c=J l):∃p∈ps,p.1=c∧p.2=l:=by unfold Vs.eZ at h;split at h;rename_i p hp;cases h;exact⟨p,ayP hp,by have:=List.find?_some hp;simpa using this,rfl⟩;cases h
def arV{ps:M (ao×M ao)}(a:∀p∈ps,2≤Y p.2)(s:M ao):Y (ia ps s)=Y s+gB ps s:=by
 induction s with
 |nil=>rfl|cons c s b=>
  have d:Y (ia ps (c::s))=Y (tS ps c)+Y (ia ps s):=by simp[ia]
  have e:gB ps (c::s)=X ((Vs.eZ ps c).map λl=>Y l-1) 0+gB ps s:=by simp[gB]
  rw[d,b,e];unfold tS;cases h:Vs.eZ ps c with|none=>simp;omega|some l=>obtain⟨p,hp,_,rfl⟩:=M3 h;have:=a p hp;simp;omega
def TX{ps:M (ao×M ao)}(a:(ps.map (·.1)).Nodup):∀s,gA s ps=gB ps s
 |[]=>by
  clear a;induction ps with|nil=>rfl|cons p ps b=>simpa[gA,gB]using b
 |c::s=>by
  have f:gB ps (c::s)=X ((Vs.eZ ps c).map λl=>Y l-1) 0+gB ps s:=by simp[gB]
  rw[f,←TX a s];clear f;induction ps with|nil=>simp[gA,Vs.eZ]|cons p ps b=>rw[eU,wW]at a;have b:=b a.2;have g:gA (c::s) (p::ps)=(c::s).count p.1*(Y p.2-1)+gA (c::s) ps:=(by simp[gA]);have i:gA s (p::ps)=s.count p.1*(Y p.2-1)+gA s ps:=(by simp[gA]);rw[g,i,b];by_cases d:p.1=c;have e:Vs.eZ (p::ps) c=J p.2:=(by simp[Vs.eZ,d]);have j:Vs.eZ ps c=O:=(by unfold Vs.eZ;rw[List.find?_eq_none.2 (λx k h=>a.1 (mh.2 ⟨x,k,by simpa[d]using h⟩))]);rw[e,j,List.count_cons,aF (by simp[d]),Nat.add_mul];simp;omega;have e:Vs.eZ (p::ps) c=Vs.eZ ps c:=(by simp[Vs.eZ,d]);rw[e,List.count_cons,aV (by simpa using λh=>d h.symm)];simp;omega
def ad5(s:M ao)(l:M (ao×M ao)):gA s l.reverse=gA s l:=by simp[gA]
def arW{ps:M (ao×M ao)}(s:M ao)(h:∀c∈s,Vs.eZ ps c=O):ia ps s=s:=by
 induction s with|nil=>rfl|cons c s a=>simp_all [Proofs.YtgbmhohlapmgbaaGreatDoor.vx.ia,Proofs.YtgbmhohlapmgbaaGreatDoor.vx.tS]
def arX:(be.info? 5).map (λi=>(i.zero,i.size,i.bytes))=J (J (.int .u8 0),1,1):=by kernel_rfl
structure tT(w w':World):Prop where
 heap:w'.heap=w.heap
 os:w'.os=w.os
 tape:w'.tape=w.tape
 output:w'.output=w.output
theorem tT.cell{w w':bZ}(h:tT w w')(a:ey):ve w' a=ve w a:=by simp[er,h.heap]
def tT.drew{w w':bZ}(h:tT w w'):tT w w'.drew:=⟨h.heap,h.os,h.tape,h.output⟩
def tT.below{w w':bZ}(h:tT w w')(B:U):c7 B w w':=⟨h.os,h.tape,h.output,by rw[h.heap];exact dR _,λk _=>by rw[h.heap]⟩
set_option maxHeartbeats 4000000 in
set_option maxRecDepth 1000000 in
def ad6(g:U)(ps:M (ao×M ao))(s:M ao)(Z:U→Prop)(w:bZ)(F:(ps.map (·.1)).Nodup)(hpl:0<ps.length)(hm2:ps.length≤1000)(r:∀p∈ps,2≤p.2.length)
  (hsl:s.length≤1073741824)(hrl:(ia ps s).length≤1099511627776)(M2:g<w.heap.size)(hZ:∀b,Z b→b<w.heap.size)(hB:Vs.rx w Z ps g):
  ez be 356 #[.pointer (J ⟨g,0,O⟩),.string ⟨s.toArray⟩] w λe w'=>c7 w.heap.size w w'∧e=.returned (.string ⟨(ia ps s).toArray⟩):=by
 obtain⟨G,q,o,cap,c256,hq,hqc⟩:=hB
 have hs:(lP s.toArray).size=s.length:=by simp[Cm]
 go_enter Tryz.func356,Tryz.ntmps356
 have H:∀p∈ps,Vs.eZ ps p.1=J p.2:=by
  intro p hp
  unfold Vs.eZ
  obtain⟨x,E⟩:∃x,ps.find? (λy=>y.1==p.1)=J x:=by
   cases h:ps.find? (λy=>y.1==p.1)with
   |none=>grind
   |some x=>exact⟨x,rfl⟩
  rw[E]
  have h1:=ayP E
  have h2:x.1=p.1:=by grind
  have:x=p:=by
   obtain⟨a,ha,rfl⟩:=ayQ.1 h1
   obtain⟨b,hb,rfl⟩:=ayQ.1 hp
   have:a=b:=(List.getElem_inj (i:=a) (j:=b) (h₀:=by simpa using ha) (h₁:=by simpa using hb) F).1 (by simpa using h2)
   subst this;rfl
  rw[this]
 have z:=arV r s
 have K:∀k,gA s (ps.reverse.take k)≤gB ps s:=by
  intro k
  rw[←TX F s,←ad5 s ps]
  grind [Proofs.YtgbmhohlapmgbaaGreatDoor.vx.gA,nQ]
 by_cases h8:(ps.length:L)*8≤(s.length:L)
 case' pos=>
  go_wp2
  go_loopw [5,6,32] (λn a i wr=>∃k:U,k≤ps.length∧i=.int .i64 k∧n=.int .i64 ((s.length+gA s (ps.reverse.take k):U):L)∧a=.bool ((ps.reverse.take k).any λp=>s.count p.1 !=0)∧tT w wr) (λ_ _ i _=>ps.length-(intOf i).toNat)
  case atStart=>exact⟨0,fV _,rfl,by simp[gA],by simp,⟨rfl,rfl,rfl,rfl⟩⟩
  case' round=>
   obtain⟨k,hk,rfl,rfl,rfl,f⟩:=hrel
   have c256:=(f.cell _).trans c256
   by_cases A:k<ps.length
   ·obtain⟨p,hp⟩:∃p,ps.reverse[k]?=J p:=⟨_,eM (by simpa using A)⟩
    have TY:p∈ps:=List.mem_reverse.1 (fK hp)
    have Dd:=hqc k p.1 (by grind)
    obtain⟨v0,B,t⟩:=G p.1
    rw[H p TY]at t
    obtain⟨bb,oo,cc,rfl,hbb,hbc⟩:=t
    have ht:ps.reverse.take (k+1)=ps.reverse.take k++[p]:=by rw[WD,hp];rfl
    have S:gA s (ps.reverse.take (k+1))=gA s (ps.reverse.take k)+s.count p.1*(p.2.length-1):=by rw[ht];simp[gA]
    have hA1:=K (k+1)
    have hp2:=r p TY
    obtain⟨d,hd⟩:∃d,p.2.length=d+1:=⟨p.2.length-1,by omega⟩
    obtain⟨c,hc⟩:∃c,s.count p.1=c:=⟨_,rfl⟩
    have X:Lib.countByte (lP s.toArray).data.toList p.1=c:=by rw[←hc];rfl
    obtain⟨N,hN⟩:∃N,s.length+gA s (ps.reverse.take k)=N:=⟨_,rfl⟩
    obtain⟨av,hav⟩:∃av,((ps.reverse.take k).any λp=>s.count p.1 !=0)=av:=⟨_,rfl⟩
    obtain⟨e,he⟩:∃e,c*d=e:=⟨_,rfl⟩
    have hN1:s.length+gA s (ps.reverse.take (k+1))=N+e:=by grind
    have hN2:N+e≤1099511627776:=by omega
    have m:((ps.reverse.take (k+1)).any λp=>s.count p.1 !=0)=(av||c !=0):=by grind
    have qe:(c:L)*((p.2.length:L)-1)=(e:L):=by rw[hd,←he];simp
    have Dg:0≤(c:L)*((p.2.length:L)-1):=by omega
    have Al:(c:L)*((p.2.length:L)-1)≤1099511627776:=by omega
    have hdl:c=0∨p.2.length≤1099511627777:=by
     rcases Nat.eq_zero_or_pos c with h|h
     ·exact .inl h
     ·right;have:=Nat.le_mul_of_pos_left d h;omega
    rw[hN,hav]
    have Dd:=(f.cell _).trans Dd
    have B:=(f.cell _).trans B
    have arM:((⟨#[p.1]⟩:nT)[0]'(show 0<1 by decide)).toNat<256:=p.1.toNat_lt
    have azP:wr.cell? ⟨g,((⟨#[p.1]⟩:nT)[0]'(show 0<1 by decide)).toNat,O⟩=_:=B
    clear K H z G hqc F r hA1 S ht hp hbc hN hav hc he hd TY
    by_cases hc0:c=0
    ·subst hc0
     go_wp2_with (first|(go_at_call 358;refine(Tryz.strings_Count_one ⟨s.toArray⟩ p.1 _).mono ?_;rintro e w' ⟨rfl,rfl⟩;rw[X])|go_in)
     go_roundw
     case rel=>exact⟨k+1,by omega,by simp,by rw[hN1];simp at qe ⊢;omega,by rw[m];simp,f⟩
     grind [Ct]
    ·have hcb:((c:L) !=0)=W:=by simp;omega
     go_wp2_with (first|(go_at_call 358;refine(Tryz.strings_Count_one ⟨s.toArray⟩ p.1 _).mono ?_;rintro e w' ⟨rfl,rfl⟩;rw[X])|go_in)
     go_region
     have hsd:=f.drew
     go_wp2
     go_roundw
     case rel=>exact⟨k+1,by omega,by simp,by rw[hN1];simp,by rw[m];simp[hc0],hsd⟩
     grind [Ct]
   have hkl:k=ps.length:=by omega
   subst hkl
   have hA:s.length+gA s (ps.reverse.take ps.length)=(ia ps s).length:=by rw[ahH (by simp),ad5,TX F,z]
   have T:((ps.reverse.take ps.length).any λp=>s.count p.1 !=0)=s.any λc=>(Vs.eZ ps c).isSome:=by
    grind [ahH,Option.isSome_iff_exists,Proofs.YtgbmhohlapmgbaaGreatDoor.vx.M3]
   rw[hA,T]
   clear hA T hk A
   rename_i c256
 case' neg=>
  go_wp2
  go_loopw [5,6,10] (λn a i wr=>∃k:U,k≤s.length∧i=.int .i64 k∧n=.int .i64 ((s.length+gB ps (s.take k):U):L)∧a=.bool ((s.take k).any λc=>(Vs.eZ ps c).isSome)∧tT w wr) (λ_ _ i _=>s.length-(intOf i).toNat)
  case atStart=>exact⟨0,fV _,rfl,by simp[gB],by simp,⟨rfl,rfl,rfl,rfl⟩⟩
  case' round=>
   obtain⟨k,hk,rfl,rfl,rfl,f⟩:=hrel
   by_cases A:k<s.length
   ·obtain⟨c,hc⟩:∃c,s[k]?=J c:=⟨_,eM A⟩
    obtain⟨v0,B,t⟩:=G c
    have ht:s.take (k+1)=s.take k++[c]:=by rw[WD,hc];rfl
    have hBk:gB ps (s.take (k+1))≤gB ps s:=by
     conv=>rhs;rw[←nQ (k+1) s]
     simp only[gB,mj,List.sum_append]
     omega
    obtain⟨N,hN⟩:∃N,s.length+gB ps (s.take k)=N:=⟨_,rfl⟩
    obtain⟨av,hav⟩:∃av,((s.take k).any λc=>(Vs.eZ ps c).isSome)=av:=⟨_,rfl⟩
    have m:((s.take (k+1)).any λc=>(Vs.eZ ps c).isSome)=(av||(Vs.eZ ps c).isSome):=by grind
    have S:=arT ps (s.take k) c
    rw[←ht]at S
    have hix:(⟨s.toArray⟩:nT)[k]'(by rw[hs];exact A)=c:=by
     grind [ayR]
    have B:=(f.cell _).trans B
    have xF:=c.toNat_lt
    rw[hN,hav]
    cases hr:Vs.eZ ps c with
    |none=>
     rw[hr]at t S m
     subst t
     have hN1:s.length+gB ps (s.take (k+1))=N:=by grind
     rw[Option.isSome_none,Bool.or_false]at m
     clear K H z G hqc F r S ht hN hav hr hBk
     go_wp2
     rw[WG wr 135 5 O 0 0 pU]
     simp only[pV]
     rw[o7]
     go_wp2
     go_roundw
     case rel=>exact⟨k+1,by omega,by simp,by rw[hN1],by rw[m],f⟩
     grind [Ct]
    |some l=>
     rw[hr]at t S m
     obtain⟨bb,oo,cc,rfl,hbb,hbc⟩:=t
     obtain⟨p,hp,_,Y⟩:=M3 hr
     have hl2:2≤l.length:=by grind
     have hN1:s.length+gB ps (s.take (k+1))=N+(l.length-1):=by rw[S];simp;omega
     have hN2:N+(l.length-1)≤1099511627776:=by omega
     rw[Option.isSome_some,Bool.or_true]at m
     clear K H z G hqc F r S ht hN hav hr hBk hbc hp Y
     go_wp2
     rw[WG wr 135 5 (J ⟨bb,oo,O⟩) l.length cc pU]
     simp only[pV]
     rw[o7]
     go_wp2
     go_roundw
     case rel=>exact⟨k+1,by omega,by simp,by rw[hN1];simp;omega,by rw[m],f⟩
     grind [Ct]
   have hkl:k=s.length:=by omega
   subst hkl
   have hA:s.length+gB ps (s.take s.length)=(ia ps s).length:=by grind
   have T:((s.take s.length).any λc=>(Vs.eZ ps c).isSome)=s.any λc=>(Vs.eZ ps c).isSome:=by rw[ur]
   rw[hA,T]
   clear hA T hk A
 all_goals (
  clear K H h8 hqc
  cases ha:s.any λc=>(Vs.eZ ps c).isSome
  ·go_wp2
   go_ret
   rw[arW s (λc hc=>by simp_all)]
   exact⟨f.below _,rfl⟩
  ·obtain⟨N,hN⟩:∃N,(ia ps s).length=N:=⟨_,rfl⟩
   rw[hN]at hrl ⊢
   clear z
   obtain⟨i5,hi5,ar5,ar6,ar7⟩:=info_parts arX
   go_wp2
   obtain⟨w1,hmk,hown,hgr⟩:=run_make_full (P:=be) wr wr.heap.size 135 5 i5 (.int .u8 0) 1 pU hi5 ar5 ar6 .i64 .i64 N (by rw[ar7];omega) (by unfold maxLen;omega) (dR _)
   rw[hmk]
   simp only[pV]
   rw[o7]
   obtain⟨cs0,hc0,hc1⟩:∃cs0,w1.heap[wr.heap.size]?=J (.cells cs0 5 (0,0))∧cs0.size=N:=by
    rcases hown.2 with⟨h,_⟩|⟨gg,cp,cur,h,_,h1,_,_,h2,_⟩
    ·cases h
    simp_all
   obtain⟨V,TU⟩:∃x,x=wr:=⟨_,rfl⟩
   subst TU
   have xG:c7 V.heap.size V w1:=(m9 _ _).grown hgr (dR _) (λq hq=>by cases hq)
   clear hown hgr hmk
   go_wp2
   go_loopw [13,14] (λj i wr=>∃k:U,k≤s.length∧i=.int .i64 k∧j=.int .i64 ((ia ps (s.take k)).length:U)∧c7 V.heap.size V wr∧∃cs,wr.heap[V.heap.size]?=J (.cells cs 5 (0,0))∧cs.size=N∧∀(x:U)b,(ia ps (s.take k))[x]?=J b→cs[x]?=J (.int .u8 b.toNat)) (λ_ i _=>s.length-(intOf i).toNat)
   case atStart=>exact⟨0,fV _,rfl,rfl,xG,cs0,hc0,hc1,λx b h=>by simp[ia]at h⟩
   case round=>
    obtain⟨k,hk,rfl,rfl,C,cs,hcs,TW,Gs⟩:=hrel
    by_cases A:k<s.length
    ·obtain⟨c,hc⟩:∃c,s[k]?=J c:=⟨_,eM A⟩
     obtain⟨v0,B,t⟩:=G c
     have ar8:g<V.heap.size:=by rw[f.heap];exact M2
     have B:=(C.cell (p:=⟨g,c.toNat,O⟩) ar8).trans ((f.cell _).trans B)
     have ht:s.take (k+1)=s.take k++[c]:=by rw[WD,hc];rfl
     have D:=arU ps (s.take k) c
     rw[←ht]at D
     have hle:(ia ps (s.take (k+1))).length≤N:=by
      have e:ia ps s=ia ps (s.take (k+1))++ia ps (s.drop (k+1)):=by
       conv=>lhs;rw[←nQ (k+1) s]
       simp only[ia,xb]
      rw[←hN,e,lg]
      omega
     have hix:(⟨s.toArray⟩:nT)[k]'(by rw[hs];exact A)=c:=by
      have:s[k]=c:=by simp_all
      simpa[ayR]using this
     have xF:=c.toNat_lt
     obtain⟨R,hR⟩:∃R,ia ps (s.take k)=R:=⟨_,rfl⟩
     rw[hR]at D Gs ⊢
     have M4:=bX wX D
     rw[lg]at M4
     have fz:∀j,wr.frozen? ⟨V.heap.size,j,O⟩=I:=by intro j;simp[na,hcs]
     cases hr:Vs.eZ ps c with
     |none=>
      rw[hr]at t
      subst t
      have hrb:tS ps c=[c]:=by simp[tS,hr]
      rw[hrb]at D M4
      have hRN:R.length<N:=by simp at M4;omega
      obtain⟨u0,hu0⟩:∃u,wr.cell? ⟨V.heap.size,R.length,O⟩=J u:=⟨_,by simp only[er,hcs];exact Array.getElem?_eq_getElem (by omega)⟩
      obtain⟨g5,o5⟩:=Vs.mB (o:=R.length) (v:=.int .u8 c.toNat) hcs
      clear G F r ht hR hr
      go_wp2
      rw[WG wr 135 5 O 0 0 pU]
      simp only[pV]
      rw[o7]
      go_wp2
      go_roundw
      case rel=>
       refine⟨k+1,by omega,by simp,by rw[D];simp,C.setCell (p:=⟨V.heap.size,R.length,O⟩) (dR _) _,_,g5,by simp[TW],λx b E=>?_⟩
       rw[D]at E
       rcases Nat.lt_trichotomy x R.length with h|rfl|h
       ·rw[pS h]at E
        rw[N9 (by omega)]
        exact Gs x b E
       ·simp_all
       ·rw[List.getElem?_eq_none (by simp;omega)]at E
        cases E
      case measure=>simp[intOf];omega
     |some l=>
      rw[hr]at t
      obtain⟨bb,oo,cc,rfl,hbb,hbc⟩:=t
      obtain⟨p,hp,_,Y⟩:=M3 hr
      have hl2:2≤l.length:=by rw[←Y];exact r p hp
      have hrb:tS ps c=l:=by simp[tS,hr]
      rw[hrb]at D M4
      have hRN:R.length+l.length≤N:=by omega
      have azQ:R.length≤N:=by omega
      have azR:(c.toNat:L)<256:=by omega
      have hNR:¬N=R.length:=by omega
      have asa:bb<V.heap.size:=by rw[f.heap];exact hZ bb hbb
      have azT:∀(i:U)x,l[i]?=J x→wr.cell? ⟨bb,oo+i,O⟩=J (.int .u8 x.toNat):=λi x E=>(C.cell (p:=⟨bb,oo+i,O⟩) asa).trans ((f.cell _).trans (hbc i x E))
      have hcp:=run_copy_row (P:=be) wr.drew 135 135 3 5 V.heap.size R.length (N-R.length) (N-R.length) ⟨bb,oo,O⟩ l.length cc cs 5 (l.map λx=>.int .u8 x.toNat) pU (by kernel_rfl) (by exact hcs)
       (by simp[Nat.min_def];omega) (λj v hv=>by
         rw[iQ,pT]at hv
         obtain⟨x,E,rfl⟩:=hv
         have e:(⟨bb,oo,O⟩:ey).add j=⟨bb,oo+j,O⟩:=by simp_all [Addr.add]
         simp_all) (by simp;omega) (by simp[Value.oneCell'])
      simp only[kE]at hcp
      clear G F r ht hR hr hp Y hbc
      go_wp2
      rw[WG wr 135 5 (J ⟨bb,oo,O⟩) l.length cc pU]
      simp only[pV]
      rw[o7]
      go_wp2
      go_region
      go_wp2
      go_roundw
      case rel=>
       refine⟨k+1,by omega,by simp,by rw[D];simp,⟨C.os,C.tape,C.output,by have:=C.size;simpa using this,λq hq=>?_⟩,_,setRow_heap wr.drew V.heap.size cs _ 5 _ hcs,?_,λx b E=>?_⟩
       ·rw[setRow_other _ _ _ _ (by omega)]
        exact C.block q hq
       ·simp;omega
       ·rw[D]at E
        have hxl:=(iO.1 E).1
        rw[lg]at hxl
        rw[HA]
        rcases js x R.length with h|h
        ·rw[pS h]at E
         rw[pS (by simp;omega),List.getElem?_take_of_lt h,qV]
         exact Gs x b E
        ·rw[Co h]at E
         have e:(cs.toList.take R.length).length=R.length:=by simp;omega
         rw[Co (by omega),e,pS (by simp;omega),iQ,E]
         rfl
      case measure=>simp[intOf];omega
    ·obtain rfl:k=s.length:=by omega
     rw[ur]at Gs ⊢
     have sR:=run_convert_bytes_back (P:=be) wr 135 9 5 ⟨V.heap.size,0,O⟩ N (ia ps s) pU w9 uw (λj hj=>by
      have e:(⟨V.heap.size,0,O⟩:ey).add j=⟨V.heap.size,j,O⟩:=by simp_all [Addr.add]
      rw[e]
      simp only[er,hcs]
      exact Gs j _ (eM hj))
     rw[hN]at sR
     go_wp2
     go_ret
     refine⟨(f.below _).trans ?_,rfl⟩
     rw[←f.heap]
     exact C)
def disable(w:bZ):(callFunc 308 #[]).run be w=.ok (.value (.tuple #[])) w:=run_call_mark0 Tryz.func308 (by kernel_rfl) (by kernel_rfl) (by kernel_rfl) .disable (by kernel_rfl) w
def enable(w:bZ):(callFunc 310 #[]).run be w=.ok (.value (.tuple #[])) w:=run_call_mark0 Tryz.func310 (by kernel_rfl) (by kernel_rfl) (by kernel_rfl) .enable (by kernel_rfl) w
def acquire(a:ey)(w:bZ):(callFunc 311 #[.pointer (J a)]).run be w=.ok (.value (.tuple #[])) w:=run_call_marked Tryz.func311 (by kernel_rfl) (by kernel_rfl) (by kernel_rfl) .acquire (by kernel_rfl) a w
def releaseMerge(a:ey)(w:bZ):(callFunc 313 #[.pointer (J a)]).run be w=.ok (.value (.tuple #[])) w:=run_call_marked Tryz.func313 (by kernel_rfl) (by kernel_rfl) (by kernel_rfl) .releaseMerge (by kernel_rfl) a w
def asd(a:ey)(x:aJ)(u:FrameMode)(w:bZ)(g:ve w a=J x)(h:adB w a=I):CallsD be 280 #[.pointer (J a),.bool W] u w λe d w'=>d=u∧(e=.returned (.tuple #[])∧w'=acV w.drew a (.int .u32 1)):=by
 have b:ve w.drew a=J x:=by go_simp
 have c:adB w.drew a=I:=by go_simp
 have f:=run_call_store (P:=be) Tryz.func298 (by kernel_rfl) (by kernel_rfl) (by kernel_rfl) (by kernel_rfl) (k:=.u32) (y:=1) b c;go_enter_d Tryz.func280,Tryz.ntmps280;go_wp2;go_region_calls;all_goals (go_end0;exact⟨rfl,rfl⟩)
set_option maxRecDepth 100000 in
def ase(a:ey)(u:FrameMode)(w:bZ)(b:ve w a=J (.int .i32 1))(d:adB w a=I):CallsD be 279 #[.pointer (J a)] u w λe f w'=>f=u∧(e=.returned (.tuple #[])∧w'=acV w a (.int .i32 0)):=by have hd:=disable;have h:=enable;have i:=releaseMerge;have c:=run_call_add (P:=be) Tryz.func314 (by kernel_rfl) (by kernel_rfl) (by kernel_rfl) .i32 (by kernel_rfl) (y:=-1) (s:=0) b d (by simp[go_sem];rfl);have g:=ayS (P:=be) (src:=375) (dst:=251) ayT WA (by kernel_rfl) b;go_enter_d Tryz.func279,Tryz.ntmps279;go_wp2;all_goals go_end0;all_goals go_wp2;all_goals go_end0;all_goals exact⟨rfl,rfl⟩
set_option maxRecDepth 100000 in
def asf(a:ey)(w:bZ)(c:ve w a=J (.int .i32 0))(f:adB w a=I):ez be 278 #[.pointer (J a)] w λe w'=>e=.returned (.tuple #[])∧w'=acV w a (.int .i32 1):=by
 have hd:=disable;have h:=enable;have i:=acquire;have d:=run_call_cas_hit (P:=be) Tryz.func309 (by kernel_rfl) (by kernel_rfl) (by kernel_rfl) .i32 (by kernel_rfl) (y:=1) c f;have b:ve (acV w a (.int .i32 1)) a=J (.int .i32 1):=World.cell?_setCell_same w a _ c;have g:=ayS (P:=be) (src:=375) (dst:=251) ayT WA (by kernel_rfl) b;go_enter Tryz.func278,Tryz.ntmps278;go_wp2;first|go_end0|(simp only[Exit.inBlock,Exit.then];refine bodyPost_ret (results_none rfl _ _ _) rfl ?_)|refine bodyPost_ret (results_none rfl _ _ _) rfl ?_
 go_wp2;all_goals go_end0;all_goals exact⟨rfl,rfl⟩
structure Raw(ps:List (UInt8×List UInt8))(q o cap:Nat)(w:World):Prop where
 c0:∀(k:Nat)p,ps[k]?=some p→ve w ⟨q,o+2*k,none⟩=some (.string ⟨#[p.1]⟩)
 c1:∀(k:Nat)p,ps[k]?=some p→ve w ⟨q,o+(2*k+1),none⟩=some (.string ⟨abf p.2⟩)
 cap:2*Y ps≤cap
 lt:q<w.heap.size
structure gG(ps:List (UInt8×List UInt8)):Prop where
 m2:2≤Y ps
 m3:Y ps≤1000
 nd:(ps.map (·.1)).Nodup
 len:∀p∈ps,2≤Y p.2
def Built(b:U)(ps:M (ao×M ao))(a c d:aJ)(el:bq)(lo hi:U)(w w':bZ):Prop:=w.grownBy w' (J b)∧∃g,w'.heap[b]?=J (.cells #[a,c,d,.iface 343 (.pointer (J ⟨g,0,O⟩)),.slice O 0 0] el (lo,hi))∧w.heap.size≤g∧g<w'.heap.size∧RB w.heap.size g ps w'
theorem RB.keep{B g:U}{ps:M (ao×M ao)}{w w':bZ}(h:RB B g ps w)(hk:∀b,B≤b→b<w.heap.size→w'.heap[b]?=w.heap[b]?)(r:B≤g):RB B g ps w':=by
 let⟨cs,k,h1,h2,h3,l,i⟩:=h;have lt:∀{b:U}{x},w.heap[b]?=J x→b<w.heap.size:=λh=>(pR.1 h).1;refine⟨cs,k,by grind,h2,λc=>?_,l,i.1,?_⟩;let⟨v,m,j⟩:=h3 c;refine⟨v,m,?_⟩;split;grind;rename_i h;rw[h]at j;let⟨n,cs,fz,cap,a,d,o,e⟩:=j;exact⟨n,cs,fz,cap,a,d,by grind,e⟩;rcases i.2 with h|⟨p,q,f,a,d,o,e⟩
 exact .inl h;exact .inr ⟨p,q,f,a,d,by grind,e⟩
set_option maxHeartbeats 1000000 in
set_option maxRecDepth 100000 in
def asg(b q o cap:U)(ps:M (ao×M ao))(n p r x3:aJ)(el:bq)(lo hi:U)(z:∀o,o<5→¬(lo≤o∧o<hi))(w:bZ)(l:gG ps)(m:Raw ps q o cap w) (s:w.heap[b]?=J (.cells #[n,p,r,x3,.slice (J ⟨q,o,O⟩) (2*Y ps) cap] el (lo,hi))):ez be 209 #[.pointer (J ⟨b,0,O⟩)] w λe w'=>e=.returned (.tuple #[])∧Built b ps n p r el lo hi w w':=by
 have f:b<w.heap.size:=(pR.1 s).1;go_enter Tryz.func209,Tryz.ntmps209;go_wp2_with (go_at_call 255;refine(arL b q o cap ps n p r x3 el (lo,hi) w (Y ps) rfl l.m2 l.m3 l.nd m.cap s m.lt f m.c0 m.c1 l.len).mono ?_);rintro e a ⟨d,g,rfl,i,t,u⟩;have j:a.heap[b]?=_:=ab0 (ady d b f) s;have d3:ve a ⟨b,3,O⟩=J x3:=by simp[er,j]
 have f3:adB a ⟨b,3,O⟩=I:=by simp_all [na]
 let⟨x,A⟩:=Vs.mB (o:=3) (v:=.iface 343 (.pointer (J ⟨g,0,O⟩))) j;let⟨B,C⟩:=Vs.mB (o:=4) (v:=.slice O 0 0) x;have d4:ve (acV a ⟨b,3,O⟩ (.iface 343 (.pointer (J ⟨g,0,O⟩)))) ⟨b,4,O⟩=J (.slice (J ⟨q,o,O⟩) (2*Y ps) cap):=by simp[er,x]
 have f4:adB (acV a ⟨b,3,O⟩ (.iface 343 (.pointer (J ⟨g,0,O⟩)))) ⟨b,4,O⟩=I:=by simp_all [na]
 go_wp2;go_end0;have y:a.heap.size≤(acV (acV a ⟨b,3,O⟩ (.iface 343 (.pointer (J ⟨g,0,O⟩)))) ⟨b,4,O⟩ (.slice O 0 0)).heap.size:=by simp_all
 refine⟨rfl,⟨d.os,d.tape,d.output,uy d.size y,λc D hn=>?_⟩,g,by simpa using B,i,pW t y,u.keep (λc E F=>?_) i⟩;have k:c≠b:=λh=>hn (by rw[h]);rw[C c k,A c k,ady d c D];grind
set_option maxHeartbeats 1000000 in
set_option maxRecDepth 100000 in
def ash(b q o cap:U)(ps:M (ao×M ao))(s K:aJ)(el:bq)(lo hi:U)(t:∀o,o<5→¬(lo≤o∧o<hi))(w:bZ)(N:gG ps)(n:Raw ps q o cap w) (u:w.heap[b]?=J (.cells #[.int .u32 0,.int .i32 0,s,K,.slice (J ⟨q,o,O⟩) (2*ps.length) cap] el (lo,hi)))(j:q≠b):ez be 254 #[.pointer (J ⟨b,0,O⟩),.func (.func 209) #[.pointer (J ⟨b,0,O⟩)] #[]] w λe w'=>e=.returned (.tuple #[])∧Built b ps (.int .u32 1) (.int .i32 0) s el lo hi w w':=by
 have R:b<w.heap.size:=(pR.1 u).1;let⟨C,S⟩:=Vs.mB (o:=1) (v:=.int .i32 1) u;have d1:ve w ⟨b,1,O⟩=J (.int .i32 0):=by simp[er,u]
 have z1:adB w ⟨b,1,O⟩=I:=by simp_all [na]
 have d0:ve (acV w ⟨b,1,O⟩ (.int .i32 1)) ⟨b,0,O⟩=J (.int .u32 0):=by simp[er,C]
 have hl:=run_call_load (P:=be) Tryz.func277 (by kernel_rfl) (by kernel_rfl) (by kernel_rfl) .u32 (by kernel_rfl) d0;have D:∀(x:az)(w:bZ),(Op.unary .not (.bool x)).run be w=.ok (.bool (!x)) w:=λ_ _=>rfl;have y:Raw ps q o cap (acV w ⟨b,1,O⟩ (.int .i32 1)):=by refine⟨λk p h=>?_,λk p h=>?_,n.cap,by simpa using n.lt⟩;rw[ayU _ _ _ _ (λh=>j (bX Addr.block h).symm)];exact n.c0 k p h;rw[ayU _ _ _ _ (λh=>j (bX Addr.block h).symm)];exact n.c1 k p h
 go_enter_defers Tryz.func254,Tryz.ntmps254;go_wp2_with (first|(go_at_call 278;refine(asf ⟨b,1,O⟩ _ (by go_simp) (by go_simp)).mono ?_;rintro e w' ⟨rfl,rfl⟩)|(go_at_call 209;refine(asg b q o cap ps _ _ _ _ el lo hi t _ N y C).mono ?_;rintro e r ⟨rfl,d,g,l,i,z,m⟩)|(go_at_call 253;go_in));let⟨E,F⟩:=Vs.mB (o:=0) (v:=.int .u32 1) (show r.drew.heap[b]?=_ from l);let⟨T,G⟩:=Vs.mB (o:=1) (v:=.int .i32 0) E;refine leaves_cons (f:=280) (args:=#[.pointer (J ⟨b,0,O⟩),.bool W]) (by simp) (by simp[go_sem]) ?_;refine(asd ⟨b,0,O⟩ (.int .u32 0) .returning _ (by simp[er,l]) (by simp_all [na])).mono ?_;rintro e V A ⟨rfl,rfl,rfl⟩;refine leaves_cons (f:=279) (args:=#[.pointer (J ⟨b,1,O⟩)]) (by simp[settle]) (by simp[go_sem]) ?_;refine(ase ⟨b,1,O⟩ _ _ (by simp[er,E]) (by simp_all [na])).mono ?_;rintro e V A ⟨rfl,rfl,rfl⟩;suffices B:Built b ps (.int .u32 1) (.int .i32 0) s el lo hi w (acV (acV r.drew ⟨b,0,O⟩ (.int .u32 1)) ⟨b,1,O⟩ (.int .i32 0)) by simp[Leaves,settle,results,Tryz.results254];exact B
 have H:(acV w ⟨b,1,O⟩ (.int .i32 1)).heap.size=w.heap.size:=Oa ..;rw[H]at i m;have X:(acV (acV r.drew ⟨b,0,O⟩ (.int .u32 1)) ⟨b,1,O⟩ (.int .i32 0)).heap.size=r.heap.size:=by simp_all
 refine⟨⟨d.os,d.tape,d.output,by grind,λc Y hn=>?_⟩,g,by simpa using T,i,by rw[X];exact z,m.keep (λc Z hc2=>?_) i⟩;have a:c≠b:=λh=>hn (by rw[h]);rw[G c a,F c a];exact(d.block c (by rw[H];exact Y) hn).trans (S c a);have a:c≠b:=by omega
 rw[G c a,F c a];rfl
set_option maxRecDepth 100000 in
def asi(b q o cap:U)(ps:M (ao×M ao))(a f:aJ)(el:bq)(lo hi:U)(c:∀o,o<5→¬(lo≤o∧o<hi))(w:bZ)(i:gG ps)(j:Raw ps q o cap w) (g:w.heap[b]?=J (.cells #[.int .u32 0,.int .i32 0,a,f,.slice (J ⟨q,o,O⟩) (2*Y ps) cap] el (lo,hi)))(d:q≠b):ez be 208 #[.pointer (J ⟨b,0,O⟩),.func (.func 209) #[.pointer (J ⟨b,0,O⟩)] #[]] w λe w'=>e=.returned (.tuple #[])∧Built b ps (.int .u32 1) (.int .i32 0) a el lo hi w w':=by
 have d0:ve w ⟨b,0,O⟩=J (.int .u32 0):=by simp[er,g]
 have l:=run_call_load (P:=be) Tryz.func277 (by kernel_rfl) (by kernel_rfl) (by kernel_rfl) .u32 (by kernel_rfl) d0;have h:∀(x:az)(w:bZ),(Op.unary .not (.bool x)).run be w=.ok (.bool (!x)) w:=λ_ _=>rfl;go_enter Tryz.func208,Tryz.ntmps208;go_wp2_with (first|(go_at_call 254;refine(ash b q o cap ps a f el lo hi c _ i j g d).mono ?_;rintro e w' ⟨rfl,k⟩)|(go_at_call 253;go_in));go_end0;exact⟨rfl,k⟩
def asj(a:ey)(d:L)(hd:¬d=0)(c:aJ)(w:bZ)(f:ve w a=J (.int .u32 d)):ez be 208 #[.pointer (J a),c] w λe w'=>e=.returned (.tuple #[])∧w'=w:=by
 have h:=run_call_load (P:=be) Tryz.func277 (by kernel_rfl) (by kernel_rfl) (by kernel_rfl) .u32 (by kernel_rfl) f;have b:∀(x:az)(w:bZ),(Op.unary .not (.bool x)).run be w=.ok (.bool (!x)) w:=λ_ _=>rfl;have g:(d !=0)=W:=by simp[hd]
 go_enter Tryz.func208,Tryz.ntmps208;go_wp2;go_end0;exact⟨rfl,rfl⟩
def RB.built{B g:U}{ps:M (ao×M ao)}{w:bZ}(h:RB B g ps w)(t:g<w.heap.size)(hp:Y ps≠0):Vs.rx w (λb=>B≤b∧b<w.heap.size) ps g:=by
 let⟨cs,u,h1,h2,h3,k,l⟩:=h;have lt:∀{b:U}{x},w.heap[b]?=J x→b<w.heap.size:=λh=>(pR.1 h).1;refine⟨λc=>?_,?_⟩;let⟨v,m,j⟩:=h3 c;refine⟨v,by simp[er,h1,m],?_⟩;split;grind;rename_i h;rw[h]at j;let⟨n,o,fz,cap,a,d,e,p⟩:=j;exact⟨n,0,cap,a,⟨d,lt e⟩,λi x r=>by grind [er]⟩;rcases l.2 with⟨_,s⟩|⟨q,cap,f,a,d,e,p,y,z,A⟩
 exact cO s hp;refine⟨q,0,cap,by simp[er,h1,k,a],⟨d,lt e⟩,λi c r=>?_⟩;have hi:i<Y ps:=by grind
 have C:((T f).take (Y ps*1))[i]?=J (.string ⟨#[c]⟩):=by grind
 grind [er]
set_option maxHeartbeats 1000000 in
set_option maxRecDepth 100000 in
def asl(b q o cap:U)(ps:M (ao×M ao))(s:M ao)(m x:aJ)(el:bq)(lo hi:U)(n:∀o,o<5→¬(lo≤o∧o<hi))(w:bZ)(i:gG ps)(B:Raw ps q o cap w) (y:w.heap[b]?=J (.cells #[.int .u32 0,.int .i32 0,m,x,.slice (J ⟨q,o,O⟩) (2*Y ps) cap] el (lo,hi)))(p:q≠b) (r:Y s≤1073741824)(t:Y (ia ps s)≤1099511627776):ez be 150 #[.pointer (J ⟨b,0,O⟩),.string ⟨abf s⟩] w λe w'=>e=.returned (.string ⟨abf (ia ps s)⟩)∧Built b ps (.int .u32 1) (.int .i32 0) m el lo hi w w':=by have C:∀(fn:Fn)(first cap:bW aJ)(w:bZ),(Instr.makeFunc fn first cap).run be w=.ok (.func fn first cap) w:=λ_ _ _ _=>rfl;go_enter Tryz.func150,Tryz.ntmps150;go_wp2_with (first|(go_at_call 208;refine(asi b q o cap ps m x el lo hi n _ i B y p).mono ?_;rintro e z ⟨rfl,d,g,j,k,f,l⟩;have D:ve z ⟨b,3,O⟩=J (.iface 343 (.pointer (J ⟨g,0,O⟩))):=by simp[er,j])|(go_at_call 356;refine(ad6 g ps s _ z i.nd (by have:=i.m2;omega) i.m3 i.len r t f (λ_ h=>h.2) (l.built f (by have:=i.m2;omega))).mono ?_;rintro e E ⟨a,rfl⟩));go_ret;refine⟨rfl,?_⟩;have u:b<w.heap.size:=(pR.1 y).1;refine⟨⟨ab0 a.os d.os,ab0 a.tape d.tape,ab0 a.output d.output,uy d.size a.size,λc A hn=>ab0 (ady a c (pW A d.size)) (d.block c A hn)⟩,g,ab0 (ady a b (pW u d.size)) j,k,pW f a.size,l.keep (λc _ v=>ady a c v) k⟩
set_option maxHeartbeats 1000000 in
set_option maxRecDepth 100000 in
def asm(b g:U)(ps:M (ao×M ao))(s:M ao)(Z:U→Prop)(m n o:aJ)(w:bZ)(a:gG ps) (h:∃ws el fz,w.heap[b]?=J (.cells ws el fz)∧ws[0]?=J (.int .u32 1)∧ws[3]?=J (.iface 343 (.pointer (J ⟨g,0,O⟩)))) (c:Y s≤1073741824)(d:Y (ia ps s)≤1099511627776)(hZ:∀b,Z b→b<w.heap.size)(i:Z g)(j:Vs.rx w Z ps g):ez be 150 #[.pointer (J ⟨b,0,O⟩),.string ⟨abf s⟩] w λe w'=>c7 w.heap.size w w'∧e=.returned (.string ⟨abf (ia ps s)⟩):=by
 let⟨ws,el,fz,h1,h2,h3⟩:=h;have k:∀(fn:Fn)(first cap:bW aJ)(w:bZ),(Instr.makeFunc fn first cap).run be w=.ok (.func fn first cap) w:=λ_ _ _ _=>rfl;have c0:ve w ⟨b,0,O⟩=J (.int .u32 1):=by simp[er,h1,h2]
 have p:ve w ⟨b,3,O⟩=J (.iface 343 (.pointer (J ⟨g,0,O⟩))):=by simp[er,h1,h3]
 go_enter Tryz.func150,Tryz.ntmps150;go_wp2_with (first|(go_at_call 208;refine(asj ⟨b,0,O⟩ 1 (by decide) _ w c0).mono ?_;rintro e l ⟨rfl,q⟩;subst l)|(go_at_call 356;refine(ad6 g ps s Z w a.nd (by have:=a.m2;omega) a.m3 a.len c d (hZ g i) hZ j).mono ?_;rintro e r ⟨f,rfl⟩));go_ret;exact⟨f,rfl⟩
set_option maxHeartbeats 1000000 in
set_option maxRecDepth 100000 in
def asn(a off n cap:U)(xs:M aJ)(w:bZ)(hn:Y xs=n)(f:n%2=0)(g:n≠0)(i:n≤2000)(hx:∀k v,xs[k]?=J v→ve w ⟨a,off+k,O⟩=J v):
  ez be 149 #[.slice (J ⟨a,off,O⟩) n cap] w λe w'=>c7 w.heap.size w w'∧∃q b cap cs,e=.returned (.pointer (J ⟨b,0,O⟩))∧w.heap.size≤q∧q<b∧b<w'.heap.size∧n≤cap∧
   w'.heap[b]?=J (.cells #[.int .u32 0,.int .i32 0,.int .u32 0,.nilIface,.slice (J ⟨q,0,O⟩) n cap] 273 (0,0))∧w'.heap[q]?=J (.cells cs 9 (0,0))∧∀(k:U)v,xs[k]?=J v→cs[k]?=J v:=by
 have u:((n:L)%2==1)=I:=by simp;omega
 have d:=grownCap_ge w n 0 9
 have l:¬xs=[]:=by grind
 have m:¬281474976710656<zK n 0*ayV.bytes:=by grind [ayV,zK]
 have c:∀W:bZ,(∀(k:U)v,xs[k]?=J v→ve W ⟨a,off+k,O⟩=J v)→Sem.run be (loadCellsFrom ⟨a,off,O⟩ 0 n #[]) W=.ok (abf xs) W:=λW h=>by have:=run_loadCells_list (P:=be) (w:=W) ⟨a,off,O⟩ xs (λj v x=>by grind [Addr.add]);simp_all [loadCells]
 have p:=c w hx
 have r:=c w.drew (λk v h=>hx k v h)
 go_enter Tryz.func149,Tryz.ntmps149
 go_wp2
 go_ret
 have s:∀o o',(ac2 (ac2 w o) o').drew.heap[w.heap.size]?=J o:=λo o'=>by show(World.alloc _ _).heap[w.heap.size]?=_;rw[HL _ _ _ (by simp)];exact Ob
 have t:∀o o',(ac2 (ac2 w o) o').drew.heap[w.heap.size+1]?=J o':=λo o'=>by
  show(World.alloc _ _).heap[_]?=_;have h:w.heap.size+1=(ac2 w o).heap.size:=by simp
  rw[h];exact Ob
 refine⟨(adM (adM (m9 _ w) (dR _) _) (by simp) _).drew,w.heap.size,w.heap.size+1,_,_,rfl,dR _,Nat.lt_succ_self _,?_,d,t _ _,s _ _,λk v hk=>?_⟩
 grind
 grind
section
open Go.ChangeMaps Go.MapKept
open Go.Maps (Keyed)
def aeq:Keyed be 3:=Maps.int_keyed w8
def wC(v:aJ):Q (jo Unit×M MemPlace):=match v with|.slice O 0 0=>J (.nil,[])|.slice (J ⟨g,0,O⟩) n c=>J (.slice [.lit (.int .i64 g),.lit (.int .i64 n),.lit (.int .i64 c)] [],[])|_=>O
def asR{u v:aJ}{d a:jo Unit}{p b:M MemPlace}(h:wC u=J (d,p))(c:wC v=J (a,b))(hd:d=a):u=v:=by subst hd;unfold wC at h c;grind
def asT{w:bZ}{base e size n:U}{v:aJ}{xs:M aJ}(h:adK w base e size v n xs):∃d,wC v=J (d,[]):=by
 rcases h.2 with⟨rfl,_⟩|⟨g,cap,a,rfl,_⟩
 exact⟨_,rfl⟩;grind [Proofs.YtgbmhohlapmgbaaGreatDoor.vx.wC]
structure GM(w:World)(e size b base n:Nat)(V:Int→Value)(N:Int→Nat)(X:Int→List Value):Prop where
 map:∃D,w.ownsMap Tryz.prog 3 wC b n D∧Maps.IsMap D∧∀k,(Lit.int .i64 k).wf=true→wC (V k)=some (D.atKey (.int .i64 k) .nil,[])
 rows:∀k,adK w base e size (V k) (N k) (X k)
 apart:∀k k',k≠k'→acg (V k)=none∨acg (V k)≠acg (V k')
 lt:b<base
def GM.made(w:bZ)(e size base:U)(a:w.heap.size<base):GM (ac2 w (.map #[] 0)) e size w.heap.size base 0 (λ_=>.slice O 0 0) (λ_=>0) (λ_=>[]):=⟨⟨.map [],World.ownsMap_made w be 3 wC,⟨[],rfl⟩,λk _=>rfl⟩,λ_=>World.ownsRow_nil _ _ _ _,λ_ _ _=>.inl rfl,a⟩
theorem GM.keep{w w':bZ}{e size b base n:U}{V:L→aJ}{N:L→U}{X:L→M aJ}{bC:Q U}(h:GM w e size b base n V N X)(a:w.grownBy w' bC)(c:J b≠bC)(d:∀k,acg (V k)=O∨acg (V k)≠bC):GM w' e size b base n V N X:=by let⟨⟨D,h1,h2,h3⟩,f,g,i⟩:=h;exact⟨⟨D,h1.kept a c,h2,h3⟩,λk=>(f k).kept a (d k),g,i⟩
theorem GM.mono{w:bZ}{e size b base n a:U}{V:L→aJ}{N:L→U}{X:L→M aJ}(h:GM w e size b base n V N X)(hn:n≤a):GM w e size b base a V N X:=by let⟨⟨D,h1,h2,h3⟩,c,d,f⟩:=h;exact⟨⟨D,h1.mono hn,h2,h3⟩,c,d,f⟩
def GM.look{w:bZ}{t E e size b base n:U}{V:L→aJ}{N:L→U}{X:L→M aJ}(h:GM w e size b base n V N X)(c:acK be t=J (.map 3 E))(d:(zeroValue E).run be w=.ok (.slice O 0 0) w){k:L}(hk:(rb .i64 k).wf=W):(wV t (.map (J b)) (.int .i64 k) I).run be w=.ok (V k) w:=by let⟨D,h1,h2,h3⟩:=h.map;let⟨v,ps,a,hv⟩:=h1.lookup aeq c d (zd:=.nil) (zp:=[]) rfl (ayW w8 hk);rw[a,asR hv (h3 k hk) rfl]
theorem GM.put{w r:bZ}{t E e size b base n:U}{V:L→aJ}{N:L→U}{X:L→M aJ}(h:GM w e size b base n V N X)(C:be.underlying t=J (.map 3 E))(hn:n<maxLen){k:L}(hk:(rb .i64 k).wf=W) (A:w.grownBy r (V k).ownBlock){i:aJ}{m:U}{xs:M aJ}(x:r.ownsRow base e size i m xs)(s:i.ownBlock=(V k).ownBlock∨∃g,i.ownBlock=J g∧w.heap.size≤g):∃o,(Instr.mapUpdate t (.map (J b)) (.int .i64 k) i).run be r=.ok () o∧r.grownBy o (J b)∧GM o e size b base (n+1) (λj=>if j=k then i else V j) (λj=>if j=k then m else N j) (λj=>if j=k then xs else X j):=by
 let⟨⟨D,h1,h2,h3⟩,v,F,G⟩:=h;have f:∀{u:aJ}{q:U}{ys:M aJ}{a:bZ},a.ownsRow base e size u q ys→u.ownBlock≠J b:=λH l=>by have:=(H.lt b l).1;omega
 let⟨d,hd⟩:=asT x;let⟨o,p,K,y⟩:=(h1.kept A (λl=>f (v k) l.symm)).update aeq C hn (ayW w8 hk) hd;have B:∀j,j≠k→(V j).ownBlock=O∨(V j).ownBlock≠i.ownBlock:=by
  intro j P;rcases s with s|⟨g,s,R⟩
  grind;cases z:(V j).ownBlock with|none=>exact .inl rfl|some T=>refine .inr λl=>?_;rw[s]at l;cases l;have:=((v j).lt g z).2;omega
 refine⟨o,p,y,⟨_,K,?_,λj P=>?_⟩,λj=>?_,λj Y S=>?_,G⟩;obtain⟨es,rfl⟩:=h2;exact⟨_,rfl⟩;by_cases c:j=k;subst c;simp only[if_true];rw[Maps.atKey_put_same h2 (k:=.int .i64 j) trivial];exact hd;simp_all [Maps.atKey_put_other];by_cases c:j=k;subst c;simp only[if_true];exact x.kept y (.inr (f x));simp only[aV c];exact((v j).kept A (F j k c)).kept y (.inr (f (v j)));grind
end
end
end Go.Proofs.YtgbmhohlapmgbaaGreatDoor.vx
namespace Go.Proofs.YtgbmhohlapmgbaaGreatDoor.vx
open Go Go.RowKit Go.Proofs
set_option maxHeartbeats 1000000 in
set_option maxRecDepth 100000 in
def apk(cs:bW aJ)(g:U→L)(b:L)(w:bZ)(c:∀i:U,i<32→cs[i]?=J (.int .u8 (g i)))(f:0≤b)(h1:b<256):ez be 293 #[.agg cs,.int .u8 b] w λe w'=>e=.returned (.bool (Ve.dt .u8 (g (G (b/8))/2 ^ G (b%8)) 1==1))∧c7 w.heap.size w w':=by
 go_enter Tryz.func293,Tryz.ntmps293;have hk:=c (G (b/8)) (by omega);have d:0≤b/8:=by omega
 have a:b/8<32:=by omega
 have h:0≤b%8:=by omega
 go_wp2;go_ret;exact⟨rfl,adM (m9 _ w) (dR _) _⟩
end Go.Proofs.YtgbmhohlapmgbaaGreatDoor.vx
namespace Go.Proofs.YtgbmhohlapmgbaaGreatDoor.vd
open Go Go.Vs Go.Ve Go.Fd Go.Proofs.Tryz
def T32:Ty:=S1
def MQ:bQ:={args:=[.bC (.bG T32 MK),.one (.i .u8)],res:=[.one .b]}
def apm:iD prog 293 (MQ.F λx=>yF x.1 x.2):=by
 intro args aI r c w vals β ω Z h j q a;unfold bQ.F at c;split at c;rename_i z t;let⟨s,b⟩:=z;let⟨h1,h2⟩:=bQ.jf MQ (by kernel_rfl) t;subst h1 h2;split at c;rename_i y hy;cases c;simp only[yF]at hy;split at hy;rename_i k;cases hy;have m:(0:L)≤(show L from b)∧(show L from b)<256:=jr k;let⟨c1,v⟩:=m;let⟨ws,A,f⟩:=a.args 0;have B:=(a.args 1).2;have hv:vals=#[.agg ws,.int .u8 b]:=vx.kU (l:=[.agg ws,.int .u8 b]) h λi hi=>by
  match i,hi with|0,_=>exact A|1,_=>exact B
 subst hv;have D:∀i:U,i<32→ws[i]?=J (.int .u8 (H (Bn s.1) i 0)):=by
  intro i hi;have o:i<Y (Bn s.1):=hi;have k:((Bn s.1).map (λn=>C.d (.int .u8 n))++[C.d (.int .i64 s.2.1),C.d (.bool s.2.2)])[i]?=J (C.d (.int .u8 (H (Bn s.1) i 0))):=by rw[pS (by simpa using o),iQ,eM o,jP,eM o];rfl
  let⟨u,E,G⟩:=f.aE k;rw[←qV,E];exact bX J G
 refine(vx.apk ws (λi=>H (Bn s.1) i 0) b w D c1 v).mono ?_;rintro e w' ⟨rfl,g⟩;exact⟨_,_,_,_,rfl,BZ a j g.os g.tape g.output g.size (λb p _=>ady g b p) (K₀:=cY prog 0 w #[] β ω Z) (β₀:=β) (Z₀:=Z) (s₀:=dm [] []) (a₀:={tmps:=#[],defers:=[]}) (w₀:=w) ⟨rfl,rfl⟩ rfl rfl rfl⟩;cases hy;cases c;cases c
def apn:lx prog 293 (MQ.F λx=>yF x.1 x.2):=qk Tryz.func293 (by kernel_rfl) rfl apm
def acS:cU:=MQ.fD (by kernel_rfl) λx=>yF x.1 x.2
def apo:dr prog (293,acS):=apn
noncomputable abbrev apq:{p:dT×cU // dr prog p}:=⟨(293,acS),apo⟩
end Go.Proofs.YtgbmhohlapmgbaaGreatDoor.vd
namespace Go.Proofs.YtgbmhohlapmgbaaGreatDoor.vd
noncomputable section
open Go Go.Vs Go.Ve Go.Fd Go.Proofs.Tryz
set_option maxRecDepth 100000
def acT:Bd:=gd func268 (sg [.one (.n .data wy),oS,.one (.n .data .bool)] [.one (.n .data .bool)]) (u3 Ey) (fx 12 [6,7] 16176929861582163911) [apq] (ll [⟨⟨[0,1,7,15,16],[],[.a6 7 (.n .ak .bool),sI 16]⟩,[(.exit 0,⟨[7],[],[.a6 7 (.n .ak .bool)]⟩)],O⟩,⟨⟨(bt 100227),[],[.a6 9 (.l .ak .bool),sI 10]⟩,[(.exit 2,⟨(bt 99203),[],[.a6 9 (.l .ak .bool)]⟩)],O⟩,⟨⟨[0,1,7,8,9,15,16,61,62],[],[.a6 9 (.l .ak .bool),sI 62]⟩,[(.exit 4,⟨[0,1,9,15,16],[],[.a6 9 (.l .ak .bool)]⟩)],O⟩])
def apr:Bd:=gd func224 (sg [.one (.n .data wy),oS] [oB]) (u2 KK) (fx 7 [4] 28787) [acT] (ll [⟨⟨[0,1,5,12,13],[],[.a6 5 (.l .ak .bool),sI 13]⟩,[(.exit 0,⟨[0,1,5],[],[.a6 5 (.l .ak .bool)]⟩)],O⟩])
def apt:Bd:=gd func269 (sg [.one (.n .data wy),oS] [oI]) (u2 Sf) (fx 8 [4] 585971) [aps,acT] (ll [⟨⟨[5,12,13,14],[],[sI 5,sI 14]⟩,[(.exit 0,⟨[5],[],[sI 5]⟩)],O⟩])
def apu:Bd:=gd func225 (sg [.one (.n .data wy),oS] [oB]) (u2 KJ) (fx 5 [4] 19) [apt]
def apv:Bd:=gd func183 (sg [.one (.n .data ze),oS,oI] [oB]) (u3 KN) (fx 8 [6] 1099512578247) [apr,apu] (ll [⟨⟨[0,1,2,17,18],[],[sI 18]⟩,[(.ret,⟨[6],[],[.a6 6 .b]⟩),(.exit 0,⟨[],[],[]⟩)],O⟩])
def apw:Bd:=gd func118 (sg [.one (.n .data ze),oS] [.one (.n .ak (.int .i64))]) (u2 KP) ({fx 7 [4] 533107 with od:=I}) [apv] (ll [⟨⟨[0,1,5,6],[],[.a6 5 (.n .ak (.int .i64)),sI 6]⟩,[(.exit 0,⟨[5],[],[.a6 5 (.n .ak (.int .i64))]⟩)],O⟩])
def B74:Bd:=gd func74 (sg [.one (.n .data ze),.one (.n .data bo)] [.one (.n .data jk)]) (u2 KX) (fx 19 [4] 74975926631830904307) [acL,apw,wA,apx,wB,apy,apz] (ll [⟨⟨(bt 469762466),[],[.a6 5 (.n .ak jk),sI 7,sI 28]⟩,[(.exit 0,⟨[5],[],[.a6 5 (.n .ak jk)]⟩)],O⟩,⟨⟨(bt 470157602),[],[sI 17]⟩,[(.exit 2,⟨(bt 470157602),[],[sI 17]⟩)],O⟩,⟨⟨(bt 470157602),[],[sI 18]⟩,[(.exit 4,⟨(bt 470157602),[],[sI 18]⟩)],O⟩])
def B36:Bd:=gd func36 (sg [.one (.n .data dS),.one (.n .data ze)] [.bC fS,oI]) (u2 Bu) (fy 4 [5,6,7,8,9,10,11,12,13,14,15,16,17] [4,5] 309485044411109517804335027 [.aw 4,.aw 7,.aw 9,.aw 11,.aw 17]) [Tf,Tg,Gj,B74] (ll [⟨⟨[0,1,4,22,23,24],[(.aw 4)],[sI 24]⟩,[(.ret,⟨[4,5],[(.aw 4)],[sI 5,.cell (.aw 4) 0 (.n .ak dS),.cell (.aw 4) 1 (.n .ak fj),.cell (.aw 4) 2 iI]⟩),(.exit 0,⟨[0,1,4],[(.aw 4)],[]⟩)],O⟩,⟨⟨[1,4,9,39,40,41],[(.aw 4),(.aw 9)],[sI 41,.cell (.aw 9) 0 (.l .ak dS),.cell (.aw 9) 1 (.n .ak fj),.cell (.aw 9) 2 iI]⟩,[(.exit 2,⟨[4,9],[(.aw 4),(.aw 9)],[.cell (.aw 9) 0 (.l .ak dS),.cell (.aw 9) 1 (.n .ak fj),.cell (.aw 9) 2 iI]⟩)],O⟩,⟨⟨(bt 989010709188114),[(.aw 4),(.aw 9),(.aw 11)],[sI 49,.cell (.aw 9) 0 (.l .ak dS),.cell (.aw 9) 1 (.n .ak fj),.cell (.aw 9) 2 iI]⟩,[(.exit 4,⟨[1,4,9,39,40,41],[(.aw 4),(.aw 9)],[.cell (.aw 9) 0 (.l .ak dS),.cell (.aw 9) 1 (.n .ak fj),.cell (.aw 9) 2 iI]⟩)],O⟩,⟨⟨(bt 16141890075205053970),[(.aw 4),(.aw 9),(.aw 11)],[sI 63,.cell (.aw 9) 0 (.l .ak dS),.cell (.aw 9) 1 (.n .ak fj),.cell (.aw 9) 2 iI]⟩,[(.exit 6,⟨(bt 989010709188114),[(.aw 4),(.aw 9),(.aw 11)],[.cell (.aw 9) 0 (.l .ak dS),.cell (.aw 9) 1 (.n .ak fj),.cell (.aw 9) 2 iI]⟩)],O⟩])
def Ts:bQ:={args:=[.bC dS],res:=[.one .s]}
def ac5:∀l:M (az×M ao×M ao),vx.wz (l.map (bf dx))=J l
 |[]=>rfl|(u,k,g)::l=>by
  have:=ac5 l;show(match vx.wz (l.map (bf dx))with|some l=>J ((u,k,g)::l)|none=>O)=_
  rw[this]
def apV:lx prog 44 (Ts.F tK):=by
 intro args aI r h;unfold bQ.F at h;split at h;rename_i z c;let⟨n,o⟩:=z;let⟨h1,h2⟩:=bQ.jf Ts (by kernel_rfl) c;subst h1 h2;have a:=h;simp only[tK]at a;split at a;rename_i y hy;split at hy;rename_i b;cases hy;cases a;rw[ck]at b;refine vx.api _ _ _ ?_;cases o with|none=>show vx.zg [.agg [.d (.int .i64 n),.d .nil]] []=_;simp only[vx.zg,vx.Gk,vx.wz,vx.zf];rfl|some l=>show vx.zg [.agg [.d (.int .i64 n),.d (.sl 3 (l.map (bf dx)))]] []=_;have:=ac5 l;simp only[fL]at b;simp only[vx.zg,vx.Gk,show Nat.beq 3 3=W from rfl,this,vx.zf,b.1,b.2];rfl
 cases hy;cases a;cases h
def MR:cU:=Ts.fD (by kernel_rfl) tK
def G44:dr prog (44,MR):=apV
abbrev Tt:{p:dT×cU // dr prog p}:=⟨(44,MR),G44⟩
def MT:bQ:={args:=[.one .s,.one .s],res:=[.one (.i .i64)]}
def apZ:(0:U)∈sM prog:=fK (i:=0) (by kernel_rfl)
def ap0:iD prog 161 (MT.F λx=>Fd.strings_Index x.1 x.2):=by
 intro args aI r c w vals β ω Z d f g a;unfold bQ.F at c;split at c;rename_i z h;let⟨s,t⟩:=z;let⟨h1,h2⟩:=bQ.jf MT (by kernel_rfl) h;subst h1 h2;split at c;rename_i y hy;cases c;simp only[Fd.strings_Index]at hy;split at hy;rename_i j;cases hy;have hv:vals=#[.string ⟨s.toArray⟩,.string ⟨t.toArray⟩]:=vx.kU (l:=[.string ⟨s.toArray⟩,.string ⟨t.toArray⟩]) d λi hi=>by
  match i,hi with|0,_=>exact(a.args 0).2|1,_=>exact(a.args 1).2
 subst hv;let⟨_,_,_,m,k⟩:=a.opens 0 apZ;refine(Tryz.strings_Index ⟨s.toArray⟩ ⟨t.toArray⟩ m w (by simpa[Cm]using jr j) k).mono ?_;rintro e w' ⟨rfl,rfl⟩;exact⟨_,_,_,_,rfl,BZ a f rfl rfl rfl (dR _) (λb _ _=>rfl) (K₀:=cY prog 0 w' #[] β ω Z) (β₀:=β) (Z₀:=Z) (s₀:=dm [] []) (a₀:={tmps:=#[],defers:=[]}) (w₀:=w') ⟨rfl,rfl⟩ rfl rfl rfl⟩;cases hy;cases c;cases c
def ap1:lx prog 161 (MT.F λx=>Fd.strings_Index x.1 x.2):=qk Tryz.func161 (by kernel_rfl) rfl ap0
def ac7:cU:=MT.fD (by kernel_rfl) λx=>Fd.strings_Index x.1 x.2
def ap2:dr prog (161,ac7):=ap1
abbrev ac8:{p:dT×cU // dr prog p}:=⟨(161,ac7),ap2⟩
def Tw:bQ:={args:=[.one .s,.one (.i .u8)],res:=[.one (.i .i64)]}
def ap3:lx prog 284 (Tw.F λx=>Fa x.1 x.2):=by intro args aI r h;unfold bQ.F at h;split at h;rename_i z a;let⟨s,c⟩:=z;let⟨h1,h2⟩:=bQ.jf Tw (by kernel_rfl) a;subst h1 h2;cases h;exact vx.apj _ _ _ rfl;cases h
def ac9:cU:=Tw.fD (by kernel_rfl) (λx=>Fa x.1 x.2)
def ap4:dr prog (284,ac9):=ap3
abbrev ap5:{p:dT×cU // dr prog p}:=⟨(284,ac9),ap4⟩
def ada:Bd:=gd func259 (sg [oS,.one (.i .u8)] [oI]) (u2 Fb) (fx 5 [4] 19) [ap5]
def B1:Bd:=gd func246 (sg [oS,.one (.i .u8)] [oI]) (u2 oO) (fx 5 [4] 19) [ada]
def aqh:Bd:=gd func215 (sg [oS,oS] [oI]) (u2 BH) (fy 0 [0,1,4,5,6,7,8,9,10,11,12,13,16,24,31,36] [4] 702342826256273603086707106465568295829491) [ada,ap9,aqg]
def aqi:Bd:=gd func256 (sg [oS,oS] [oS,oS,oB]) (u2 Ln) (fx 8 [4,5,6] 4339) [aqh]
def MU:Bd:=gd func210 (sg [oS,oS] [oS,oS,oB]) (u2 tL) (fx 7 [4,5,6] 115) [aqi]
def adc:Bd:=gd func251 (sg [oS] [oB]) Fe (fx 7 [2] 35184443392125) [B1,MU,zh] (ll [⟨⟨[0,3],[],[sI 3]⟩,[(.ret,⟨[2],[],[.a6 2 .b]⟩),(.exit 0,⟨[0],[],[]⟩)],O⟩])
def ade:Bd:=gd func214 (sg [oS] [.bC bo,oI,oB]) Ff (fy 0 [0,1,3,4,5,6,7,18,31] [2,3,4] 2147748093 [.aw 2,.aw 7]) [B1,MS,zh,ap7,adc]
def MV:Bd:=gd func152 (sg [oS] [oS]) wh (fx 6 [2] 13) [MU]
def aqj:Bd:=gd func160 (sg [oS] [oI,oS,oB]) Lt (fx 7 [2,3,4] 8589937277 [.aw 6]) [MS,ac8,ade,MV,Tx]
def aqk:Bd:=gd func242 (sg [.aW (.aB 0) 0,.bC bo,oI] [oI] [.cells [.n .ak bo,.n .ak (.int .u8),.n .ak (.int .i64),.n .ak bo,.i .i64]] [[J (.n .ak bo),J (.n .ak (.int .u8)),J (.n .ak (.int .i64)),J (.n .ak bo),J iI]]) (u3 rZ) (fx 8 [6] 147573952593971381463 [.aB 0,.aw 4]) [MV,adh,adi]
def aqn:Bd:=gd func203 (sg [.aW (.aB 0) 0,oS,oI] [oI,oI] [.cells [.n .ak bo,.n .ak (.int .u8),.n .ak (.int .i64),.n .ak bo,.i .i64]] [[J (.n .ak bo),J (.n .ak (.int .u8)),J (.n .ak (.int .i64)),J (.n .ak bo),J iI]]) (u3 nG) (fy 16 [21,42,60] [6,7] 4723521660640834944967 [.aB 0,.aw 9]) [ade,MV,Tx,aqk,aql,aqm,adi,B1,zh,adh]
def adj:Bd:=gd func144 ⟨[oS],[],[.aW (.aB 0) 0,oI,oI],[[J (.n .ak bo),J (.n .ak (.int .u8)),J (.n .ak (.int .i64)),J (.n .ak bo),J iI]],[],W⟩ Ls (fx 9 [2,3,4] 17188274685 [.aw 10]) [aqn] (ll [⟨⟨[0,5,6],[(.aw 10)],[sI 6,.cell (.aw 10) 0 (.n .ak bo),.cell (.aw 10) 1 (.n .ak (.int .u8)),.cell (.aw 10) 2 (.n .ak (.int .i64)),.cell (.aw 10) 3 (.n .ak bo),.cell (.aw 10) 4 iI]⟩,[(.ret,⟨[2,3,4],[],[.a6 2 (.u .aW),sI 3,sI 4]⟩),(.exit 0,⟨[0,5],[(.aw 10)],[.cell (.aw 10) 0 (.n .ak bo),.cell (.aw 10) 1 (.n .ak (.int .u8)),.cell (.aw 10) 2 (.n .ak (.int .i64)),.cell (.aw 10) 3 (.n .ak bo),.cell (.aw 10) 4 iI]⟩)],O⟩])
def adk:Bd:=gd func107 (sg [oS] [.one (.n .data bo),oI,oI]) BJ (fx 6 [2,3,4] 8253 [.cm 8 0]) [adj,aqo]
def aqr{P:Program}{w:bZ}{name:String}{g:U}{l:M aJ}(c:P.globalNamed name=J g)(h:oa w g l)(d:0<Y l):w.var? P name=J (abf l):=by
 have a:=h.aE (eM d);simp only[er]at a;simp only[World.var?,c,Option.bind_some];cases b:w.heap[g]? with
 |none=>rw[b]at a;cases a
 |some o=>
  cases o with
  |cells cs t f=>simp only[nU];apply Array.ext_getElem?;intro i;have:=h i;simp only[er,b]at this;simpa using this
  |_=>rw[b]at a;cases a
def MW:bQ:={args:=[.one (.i .i64)],res:=[.one .s]}
set_option maxRecDepth 100000 in
def aqs{w:bZ}{K:dh}{β:aC→Q U}{ω:U→Q cT}{Z:U→Prop}{s:St}{a:Act}(b:K.P=prog)(h:aY K β ω Z s a w):Lib.TabIs prog w "internal/strconv.uint64pow10" .u64 Lib.pow10Tab:=by have c:=acF.1;obtain⟨_,_,_,q⟩:=h.laid _ _ (by rw[b];exact c);exact aqr (by kernel_rfl) q (by decide)
def aqt{n:L}{y:M ao}(h:Fd.strconv_Itoa n=J y): -9223372036854775808≤n∧n≤9223372036854775807∧y=Lib.itoa n:=by unfold Fd.strconv_Itoa at h;split at h;rename_i a;cases h;rw[ck,eY,eY]at a;exact⟨a.1,a.2,rfl⟩;cases h
def aqu:iD prog 163 (MW.F Fd.strconv_Itoa):=by
 intro args aI r c w vals β ω Z d f m a;unfold bQ.F at c;split at c;rename_i n hn;let⟨h1,h2⟩:=bQ.jf MW (by kernel_rfl) hn;subst h1 h2;split at c;rename_i y hy;cases c;obtain⟨g,h,rfl⟩:=aqt hy;skip;have hv:vals=#[.int .i64 n]:=vx.kU (l:=[.int .i64 n]) d λi hi=>by
  match i,hi with|0,_=>exact(a.args 0).2
 subst hv;refine(Tryz.strconv_Itoa n g h w (aqs rfl a)).mono ?_;rintro e w' ⟨rfl,k,os,rfl⟩;refine⟨_,_,_,_,rfl,BZ a f rfl rfl rfl ?_ (λb j _=>?_) (K₀:=cY prog 0 w #[] β ω Z) (β₀:=β) (Z₀:=Z) (s₀:=dm [] []) (a₀:={tmps:=#[],defers:=[]}) (w₀:=w) ⟨rfl,rfl⟩ rfl rfl rfl⟩;show w.heap.size≤(w.heap++os).size;simp;show(w.heap++os)[b]?=w.heap[b]?;exact Array.getElem?_append_left j;cases c;cases c
def aqv:lx prog 163 (MW.F Fd.strconv_Itoa):=qk Tryz.func163 (by kernel_rfl) rfl aqu
def adl:cU:=MW.fD (by kernel_rfl) Fd.strconv_Itoa
def aqw:dr prog (163,adl):=aqv
abbrev adn:{p:dT×cU // dr prog p}:=⟨(163,adl),aqw⟩
def aqx:Bd:=gd func104 (sg [oS] [.one (.n .data dx),oI,oI]) Fh (fx 15 [2,3,4] 1199040617149288837117 [.cm 19 0]) [Tv,aqj,ac8,adk,adn,Tz,TA] (ll [⟨⟨[0,3,5,6],[(.cm 19 0)],[sI 3,sI 6,.cell (.cm 19 0) 0 .s,.cell (.cm 19 0) 1 iI,.cell (.cm 19 0) 2 (.n .ak dx)]⟩,[(.ret,⟨[2,3,4],[],[.a6 2 (.n .data dx),sI 3,sI 4]⟩),(.exit 0,⟨[5],[(.cm 19 0)],[.cell (.cm 19 0) 0 .s,.cell (.cm 19 0) 1 iI,.cell (.cm 19 0) 2 (.n .ak dx)]⟩)],O⟩])
def MX:bQ:={args:=[.one .s,.one .s],res:=[.one .s]}
def aqA{n:U}(t:M ao)(h:t.length<n):(lP t.toArray).size<n:=by simpa[Cm]using h
def aqB:iD prog 217 (MX.F λx=>Fd.pI x.1 x.2):=by
 intro args aI r c w vals β ω Z f g k a;unfold bQ.F at c;split at c;rename_i z m;let⟨s,t⟩:=z;let⟨h1,h2⟩:=bQ.jf MX (by kernel_rfl) m;subst h1 h2;split at c;rename_i y hy;cases c;simp only[Fd.pI]at hy;split at hy;rename_i h;cases hy;have hv:vals=#[.string ⟨s.toArray⟩,.string ⟨t.toArray⟩]:=vx.kU (l:=[.string ⟨s.toArray⟩,.string ⟨t.toArray⟩]) f λi hi=>by
  match i,hi with|0,_=>exact(a.args 0).2|1,_=>exact(a.args 1).2
 subst hv;rw[ck,eY]at h;refine(Tryz.pI ⟨s.toArray⟩ ⟨t.toArray⟩ w (aqA t h.1) (ascii_of_all h.2)).mono ?_;rintro e w' ⟨rfl,d⟩;exact⟨_,_,_,_,rfl,BZ a g d.os d.tape d.output d.size (λb j _=>d.block b j) (K₀:=cY prog 0 w #[] β ω Z) (β₀:=β) (Z₀:=Z) (s₀:=dm [] []) (a₀:={tmps:=#[],defers:=[]}) (w₀:=w) ⟨rfl,rfl⟩ rfl rfl rfl⟩;cases hy;cases c;cases c
def aqC:lx prog 217 (MX.F λx=>Fd.pI x.1 x.2):=qk Tryz.func217 (by kernel_rfl) rfl aqB
def ado:cU:=MX.fD (by kernel_rfl) λx=>Fd.pI x.1 x.2
def aqD:dr prog (217,ado):=aqC
abbrev aqE:{p:dT×cU // dr prog p}:=⟨(217,ado),aqD⟩
def aqF:Bd:=gd func165 (sg [oS,oI] [oI,oB]) (u2 LA) (fx 10 [4,5] 627) [MU,aqE]
def aqM:Bd:=gd func204 (sg [.aW (.aB 0) 0,oS,oI] [oI,oI] [.cells [.n .ak bo,.n .ak (.int .u8),.n .ak (.int .i64),.i .i64,.i .i64]] [[J (.n .ak bo),J (.n .ak (.int .u8)),J (.n .ak (.int .i64)),J iI,J iI]]) (u3 yV) (fy 3 [6,7,8,9,10,11,12,13,29,34,63,91] [6,7] 21267688499854044179923068231660617671 [.aB 0]) [aqI,aqJ,aqK,B1,zh,aqL] (ll [⟨⟨[1,10],[(.aB 0)],[sI 10]⟩,[(.exit 1,⟨[10],[(.aB 0)],[sI 10]⟩)],O⟩])
def adr:Bd:=gd func146 ⟨[oS],[],[.aW (.aB 0) 0,oI,oI],[[J (.n .ak bo),J (.n .ak (.int .u8)),J (.n .ak (.int .i64)),J iI,J iI]],[],W⟩ Fl (fx 9 [2,3,4] 8405501 [.aw 10]) [aqM] (ll [⟨⟨[0,5,6],[(.aw 10)],[sI 6,.cell (.aw 10) 0 (.n .ak bo),.cell (.aw 10) 1 (.n .ak (.int .u8)),.cell (.aw 10) 2 (.n .ak (.int .i64)),.cell (.aw 10) 3 iI,.cell (.aw 10) 4 iI]⟩,[(.ret,⟨[2,3,4],[],[.a6 2 (.u .aW),sI 3,sI 4]⟩),(.exit 0,⟨[5],[(.aw 10)],[.cell (.aw 10) 0 (.n .ak bo),.cell (.aw 10) 1 (.n .ak (.int .u8)),.cell (.aw 10) 2 (.n .ak (.int .i64)),.cell (.aw 10) 3 iI,.cell (.aw 10) 4 iI]⟩)],O⟩])
def ads:Bd:=gd func108 (sg [oS] [.one (.n .data bo),oI,oI]) yW (fx 6 [2,3,4] 8253 [.cm 8 0]) [adr,aqN]
def aqO:Bd:=gd func105 (sg [oS] [.one (.n .data dx),oI,oI]) Fm (fx 16 [2,3,4] 1237940630157651390237040637 [.cm 20 0]) [Tv,aqF,aqG,aqH,ads,Tz,TA] (ll [⟨⟨[0,3,5,6],[(.cm 20 0)],[sI 3,.a6 6 (.l .ak (.cb I .bh .bool)),.cell (.cm 20 0) 0 .s,.cell (.cm 20 0) 1 iI,.cell (.cm 20 0) 2 (.n .ak dx)]⟩,[(.ret,⟨[2,3,4],[],[.a6 2 (.n .data dx),sI 3,sI 4]⟩),(.exit 0,⟨[5],[(.cm 20 0)],[.cell (.cm 20 0) 0 .s,.cell (.cm 20 0) 1 iI,.cell (.cm 20 0) 2 (.n .ak dx)]⟩)],O⟩])
def aqP:Bd:=gd func218 (sg [oS,oI] [oI,oB,oB]) (u2 LD) (fx 7 [4,5,6] 1153064441261195379) [B1] (ll [⟨⟨[0,4,5],[],[sI 4]⟩,[(.exit 0,⟨[0,4,5],[],[sI 4]⟩)],O⟩,⟨⟨[0,4,5],[],[sI 4]⟩,[(.exit 2,⟨[0,4,5],[],[sI 4]⟩)],O⟩])
def aqT:Bd:=gd func205 (sg [.aW (.aB 0) 0,oS,oI] [oI,oI] [.cells [.n .ak bo,.n .ak (.int .u8),.n .ak (.int .i64)]] [[J (.n .ak bo),J (.n .ak (.int .u8)),J (.n .ak (.int .i64))]]) (u3 BN) (fy 12 [22,36,41] [6,7] 590331841423471546311 [.aB 0]) [MS,aqR,B1,zh,aqS]
def adv:Bd:=gd func147 ⟨[oS],[],[.aW (.aB 0) 0,oI,oI],[[J (.n .ak bo),J (.n .ak (.int .u8)),J (.n .ak (.int .i64))]],[],W⟩ Fo (fx 9 [2,3,4] 8405501 [.aw 10]) [aqT] (ll [⟨⟨[0,5,6],[(.aw 10)],[sI 6,.cell (.aw 10) 0 (.n .ak bo),.cell (.aw 10) 1 (.n .ak (.int .u8)),.cell (.aw 10) 2 (.n .ak (.int .i64))]⟩,[(.ret,⟨[2,3,4],[],[.a6 2 (.u .aW),sI 3,sI 4]⟩),(.exit 0,⟨[5],[(.aw 10)],[.cell (.aw 10) 0 (.n .ak bo),.cell (.aw 10) 1 (.n .ak (.int .u8)),.cell (.aw 10) 2 (.n .ak (.int .i64))]⟩)],O⟩])
def adw:Bd:=gd func109 (sg [oS] [.one (.n .data bo),oI,oI]) yX (fx 6 [2,3,4] 8253 [.cm 8 0]) [adv,aqU]
def aqV:Bd:=gd func220 (sg [.aW (.aB 0) 0,oI,oI,oI,oB] [oI,oI] [.cells [.s,.p (.aB 1) 0,.i .i64,.i .i64,.i .i64,.i .i64],.cells [.s,.i .i64,.n .ak dx]] [[O,O,O,O,O,O],[J .s,J iI,J (.n .ak dx)]]) (λx=>Sy x.1 x.2.1 x.2.2.1 x.2.2.2.1 x.2.2.2.2.1 x.2.2.2.2.2) (fx 15 [10,11] 36029351069772831 [.aB 0,.aB 1]) [adw,adn,Tz]
def aqW:Bd:=gd func168 (sg [.aW (.aB 0) 0,oI] [oI,oI] [.cells [.s,.p (.aB 1) 0,.i .i64,.i .i64,.i .i64,.i .i64],.cells [.s,.i .i64,.n .ak dx]] [[O,O,O,J iI,J iI,J iI],[J .s,J iI,J (.n .ak dx)]]) (u3 SA) (fy 13 [71,87,100] [4,5] 1267805345389471783603918610419 [.aB 0,.aB 1]) [aqP,aqQ,aqV] (ll [⟨⟨[0,1,6,7],[(.aB 0),(.aB 1)],[sI 6,sI 7,.cell (.aB 0) 3 iI,.cell (.aB 0) 4 iI,.cell (.aB 0) 5 iI,.cell (.aB 1) 0 .s,.cell (.aB 1) 1 iI,.cell (.aB 1) 2 (.n .ak dx)]⟩,[(.ret,⟨[4,5],[(.aB 0),(.aB 1)],[sI 4,sI 5,.cell (.aB 0) 3 iI,.cell (.aB 0) 4 iI,.cell (.aB 0) 5 iI,.cell (.aB 1) 0 .s,.cell (.aB 1) 1 iI,.cell (.aB 1) 2 (.n .ak dx)]⟩),(.exit 0,⟨[0,1,6,7],[(.aB 0),(.aB 1)],[sI 6,sI 7,.cell (.aB 0) 3 iI,.cell (.aB 0) 4 iI,.cell (.aB 0) 5 iI,.cell (.aB 1) 0 .s,.cell (.aB 1) 1 iI,.cell (.aB 1) 2 (.n .ak dx)]⟩)],O⟩])
def aqX:Bd:=gd func106 (sg [oS] [.one (.n .data dx),oI,oI]) Fp (fx 6 [2,3,4] 4311744829 [.aw 13,.cm 11 0]) [Tv,aqW,TA] (ll [⟨⟨[0,3,5],[(.aw 13),(.cm 11 0)],[sI 3,.cell (.cm 11 0) 0 .s,.cell (.cm 11 0) 1 iI,.cell (.cm 11 0) 2 (.n .ak dx),.cell (.aw 13) 2 iI,.cell (.aw 13) 3 iI,.cell (.aw 13) 4 iI,.cell (.aw 13) 5 iI]⟩,[(.ret,⟨[2,3,4],[],[.a6 2 (.n .data dx),sI 3,sI 4]⟩),(.exit 0,⟨[5],[(.aw 13),(.cm 11 0)],[.cell (.cm 11 0) 0 .s,.cell (.cm 11 0) 1 iI,.cell (.cm 11 0) 2 (.n .ak dx),.cell (.aw 13) 2 iI,.cell (.aw 13) 3 iI,.cell (.aw 13) 4 iI,.cell (.aw 13) 5 iI]⟩)],O⟩])
def B58:Bd:=gd func58 (sg [oI,oS] [.one (.n .data dx),oI,oI]) (u2 LJ) (fy 7 [8,15] [4,5,6] 33267) [aqx,aqO,aqX]
def B24:Bd:=gd func24 (sg [oI,oS] [.bC dS,oI,oI]) (u2 LK) (fx 8 [4,5,6] 1049843 [.aw 4]) [Tq,B58]
def TB:Bd:=gd func25 (sg [.bC dS] [oI]) yY (fx 6 [2] 268436015 [.aw 1,.aw 3]) [Tq,Tt,B24,B59]
abbrev TC:cU:=TB.1.2
def G25:dr prog (25,TC):=TB.2
def TD:Bd:=gd func60 (sg [oI,oS] [.one (.n .data bo),oI]) (u2 Fq) (fy 8 [15,23] [4,5] 8421875) [adk,ads,adw]
abbrev TE:cU:=TD.1.2
def G60:dr prog (60,TE):=TD.2
def TF:Bd:=gd func26 (sg [.bC dS,oI] [.one (.n .data bo),oI]) (u2 yZ) (fx 6 [4,5] 134218295 [.aw 2]) [Tq,TD]
abbrev TG:cU:=TF.1.2
def G26:dr prog (26,TG):=TF.2
def arc:Bd:=gd func133 (sg [.bC dS] [.one (.l .data ML)]) LM (fx 6 [2] 3887 [.aw 1]) [B82,TF] (ll [⟨⟨[1,3,8,9,10],[(.aw 1)],[.a6 3 (.l .ak ML),sI 10]⟩,[(.exit 0,⟨[3],[],[.a6 3 (.l .ak ML)]⟩)],O⟩])
def arp:Bd:=gd func206 (sg [.one (.n .data bo),oI] [oB]) (u2 LV) (fy 6 [12,35,45,61] [4] 2305878227945527347 [.aw 5]) [zh,adc]
def arq:Bd:=gd func252 (sg [oS] [oS]) LS (fx 6 [2] 13) [MU]
def ars:Bd:=gd func207 (sg [.one (.n .data bo),.bC bo] [oB]) (u2 LU) (fx 7 [4] 274882103259 [.aw 3,.aw 6]) [Gq,arq] (ll [⟨⟨[3,7,8,9],[(.aw 3)],[sI 9]⟩,[(.ret,⟨[4],[],[.a6 4 .b]⟩),(.exit 0,⟨[],[],[]⟩)],O⟩])
def MY:Bd:=gd func148 (sg [.one (.n .data bo)] [oI]) y0 (fx 5 [2] 8598450205 [.aw 4]) [Gm,arp,Gq,ars] (ll [⟨⟨[0,13,14,15],[],[sI 15]⟩,[(.ret,⟨[2],[],[sI 2]⟩),(.exit 0,⟨[],[],[]⟩)],O⟩])
def M0:bQ:={args:=[.one (.n .data bo)],res:=[.one (.n .data .bh)]}
def adP(l:M (L×M ao×L)):∀k,k≤Y l→vx.SK (λi=>(X (l[i]?) default).1) (λi=>(X (l[i]?) default).2.1) k=jz (l.take k)|0,_=>rfl|k+1,h=>by have a:=adP l k (by omega);grind [WD,Proofs.YtgbmhohlapmgbaaGreatDoor.vx.SK,jz]
def arA:iD prog 92 (M0.F wu):=by
 intro args aI r u w vals β ω Z A B Y j;unfold bQ.F at u;split at u;rename_i f t;let⟨h1,h2⟩:=bQ.jf M0 (by kernel_rfl) t;subst h1 h2;split at u;rename_i y hy;cases u;simp only[wu]at hy;split at hy;rename_i S;cases hy;have S:(WE (α:=M (Int×M ao×Int)) f []).length<4294967296:=jr S;have C:∃(p:Q ey)(q off len cap:U),vals=#[.slice p len cap]∧len=(WE (α:=M (Int×M ao×Int)) f []).length∧(p=J ⟨q,off,O⟩∨len=0)∧(p=J ⟨q,off,O⟩→0<len→Z q)∧∀k x,(WE (α:=M (Int×M ao×Int)) f [])[k]?=J x→ve w ⟨q,off+k*3,O⟩=J (.int .i64 x.1)∧ve w ⟨q,off+k*3+1,O⟩=J (.string ⟨abf x.2.1⟩)∧ve w ⟨q,off+k*3+2,O⟩=J (.int .i64 x.2.2):=by
  have T:=(j.args 0).2;cases f with
  |none=>
   refine⟨O,0,0,0,0,vx.kU (l:=[.slice O 0 0]) A λi hi=>?_,rfl,.inr rfl,(λ_ h=>cO h (Nat.lt_irrefl 0)),(λk x z=>by cases z)⟩;match i,hi with|0,_=>exact T
  |some l=>
   let⟨D,cap,V,H,g3,g4⟩:=(bA.ik (e:=3) rfl).1 T;simp only[kE]at V g3;refine⟨J D,ac6 D,D.off,l.length,cap,vx.kU (l:=[.slice (J D) l.length cap]) A λi hi=>?_,rfl,?_,λ_ X=>?_,λk x z=>?_⟩;match i,hi with|0,_=>exact V
   rcases H with H|⟨H,_⟩
   exact .inr (by omega);left;let⟨b,o,sp⟩:=D;cases H;rfl;grind;have K:l[k]?=J x:=z;let⟨q1,q2⟩:=g4.aE (i:=k) (x:=[.int .i64 x.1,.bh x.2.1,.int .i64 x.2.2]) (by rw[iQ,K];rfl);let⟨⟨v0,r0,s0⟩,⟨v1,r1,s1⟩,⟨v2,r2,s2⟩,_⟩:=q2;exact⟨by rw[r0];exact bX J s0,by rw[r1];exact bX J s1,by rw[r2];exact bX J s2⟩
 obtain⟨p,q,off,len,cap,rfl,X,hp,hb,m⟩:=C;generalize hL:WE (α:=M (Int×M ao×Int)) f []=L at *;have n:∀k,k<len→L[k]?=J ((L[k]?).getD default):=λk hk=>by grind
 refine(vx.arz q off len cap (λi=>((L[i]?).getD default).1) (λi=>((L[i]?).getD default).2.1) (λi=>((L[i]?).getD default).2.2) p w (by omega) hp (λh h'=>j.dp q (hb h h')) (λk hk=>(m k _ (n k hk)).1) (λk hk=>(m k _ (n k hk)).2.1) (λk hk=>(m k _ (n k hk)).2.2)).mono ?_;rintro e w' ⟨d,v,rfl,hv⟩;have hS:vx.SK (λi=>((L[i]?).getD default).1) (λi=>((L[i]?).getD default).2.1) len=jz L:=by rw[adP L len (by omega),X,ur]
 rw[hS]at hv;have E:∀b,b<w.heap.size→ω b=O→w'.heap[b]?=w.heap[b]? :=λb N _=>ady d b N;rcases hv with⟨hn,rfl⟩|⟨hn,g,c,rfl,Ke,P,R,hg4⟩
 rw[hn];exact⟨_,_,_,_,rfl,BX (Z':=Z) (bks:=[]) j B d.os d.tape d.output d.size E (λ_ h=>h) (λ_ h=>.inl h) (λb t=>pW (j.dp b t) d.size) rfl ⟨rfl,.inl ⟨.nil,rfl,rfl⟩⟩ rfl List.nodup_nil (λi b cs h=>by simp at h) (λi h=>cO h (Nat.not_lt_zero i))⟩;have G:Mc (jz L)=J ((jz L).mergeSort λx y=>decide (x≤y)):=by
   cases hh:jz L with|nil=>exact cO hh hn|cons a l=>rfl
 rw[G];refine⟨_,_,_,_,rfl,BX (Z':=λb=>Z b∨b=g) (bks:=[]) j B d.os d.tape d.output d.size E (λ_ h=>.inl h) (λb h=>h.imp id λh=>by omega) (λb t=>?_) rfl ⟨rfl,.inl ⟨.sl 1 (((jz L).mergeSort λx y=>decide (x≤y)).map (bf .bh)),rfl,?_⟩⟩ rfl List.nodup_nil (λi b cs h=>by simp at h) (λi h=>cO h (Nat.not_lt_zero i))⟩;rcases t with t|rfl
 exact pW (j.dp b t) d.size;exact R;refine(bA.ik (e:=1) rfl).2 ⟨⟨g,0,O⟩,c,by simp,.inr ⟨rfl,.inr rfl⟩,by simpa using P,dy.dX λi x z=>?_⟩;rw[iQ,pT]at z;obtain⟨s,hs,rfl⟩:=z;refine⟨rfl,⟨_,?_,rfl⟩,trivial⟩;grind;cases hy;cases u;cases u
def arB:lx prog 92 (M0.F wu):=qk Tryz.func92 (by kernel_rfl) rfl arA
def TQ:cU:=M0.fD (by kernel_rfl) wu
def G92:dr prog (92,TQ):=arB
def F47:iF:={af:={N:=90,T:=T,R:=R,fD:=λ_ f=>oL f [(88,TN),(89,TO),(90,TP),(92,TQ),(91,TR)],var:=[0,1,2,3,4,5,6,7,8,9,10,11,12,13,14,15,16,17],res:=[4],eqs:=EQ,dat:=[2,3,4,5,6,7,8,9,10,11,12,13,14,15,16,17],nb:=W},keys:=[0,1,4,5,6,7,8,9,10,11,13,15,17,47,50,51,52,53,64,65,66,67,78,80,84],hI:=[.aw 13,.aw 15]}
def Gr:bQ:={args:=[.one (.n .data bo),.one (.n .data bo)],aI:=[],res:=[.one .b],jg:=[],cH:=[]}
def L47:U→Q gJ:=λn=>match n with|0=>J {head:={live:=[0,1,11,50,51,52],fO:=[],vs:=[.a6 11 (.l .ak Gh),.a6 52 (.i .i64)]},gq:=[(.exit 0,{live:=[0,1,11],fO:=[],vs:=[.a6 11 (.l .ak Gh)]})]}|1=>J {head:={live:=[0,1,11,64,65,66],fO:=[],vs:=[.a6 11 (.l .ak Gh),.a6 66 (.i .i64)]},gq:=[(.exit 2,{live:=[0,1,11],fO:=[],vs:=[.a6 11 (.l .ak Gh)]})]}|2=>J {head:={live:=[0,1,78],fO:=[],vs:=[]},gq:=[(.ret,{live:=[4],fO:=[],vs:=[.a6 4 .b]}),(.exit 4,{live:=[0,1],fO:=[],vs:=[]})],rng:=J 78}|_=>O
set_option maxRecDepth 100000 in
def arE:∀x,rS F47 L47 f47 Gr x=(λx=>r8 x.1 x.2) x:=by intro x;kernel_rfl
def adT:iD prog 47 (Gr.F (λx=>r8 x.1 x.2)):=tu (F:=F47) (tbl:=L47) func47 (by kernel_rfl) mix (vQ (l:=[(88,TN),(89,TO),(90,TP),(92,TQ),(91,TR)]) (pJ rfl rfl) rfl (gC.2 ⟨G88,gC.2 ⟨G89,gC.2 ⟨G90,gC.2 ⟨G92,gC.2 ⟨G91,by simp⟩⟩⟩⟩⟩)) (by kernel_rfl) (by kernel_rfl) (by decide) (λ_=>by kernel_rfl) arE
def C47:cU:=Gr.fD (by kernel_rfl) (λx=>r8 x.1 x.2)
def G47:dr prog (47,C47):=tw func47 (by kernel_rfl) (by kernel_rfl) adT
abbrev B47:{p:dT×cU // dr prog p}:=⟨(47,C47),G47⟩
def B94:Bd:=gd func94 (sg [oS] [oN,oI]) FA (fx 7 [2,3] 16477 [.cm 9 0]) [adj,arH]
def B95:Bd:=gd func95 (sg [oS] [oN,oI]) FB (fx 7 [2,3] 16477 [.cm 9 0]) [adr,arI]
def B96:Bd:=gd func96 (sg [oS] [oN,oI]) FC (fx 7 [2,3] 16477 [.cm 9 0]) [adv,arJ]
def ad1:Bd:=gd func136 (sg [oI,oS] [oN,oI]) (u2 BO) (fy 6 [7,13] [4,5] 8435) [B94,B95,B96]
abbrev TT:cU:=ad1.1.2
def arK:dr prog (136,TT):=ad1.2
def M5:bQ:={args:=[.one (.n .data .bh)],res:=[.aW (.aB 0) 0],jg:=[[J (.i .u32),J (.i .i32),J (.i .u32),J (.r 343),J (.n .data .bh)]]}
def aso:iD prog 149 (M5.F wo):=by
 intro args aI r g w vals β ω Z B C S a;unfold bQ.F at g;split at g;rename_i f n;let⟨h1,h2⟩:=bQ.jf M5 (by kernel_rfl) n;subst h1 h2;split at g;rename_i y hy;cases g;simp only[wo]at hy;split at hy;rename_i z;cases hy;simp only[ck,eY]at z;let⟨⟨p,D⟩,t⟩:=z;have T:=(a.args 0).2;cases f with
 |none=>grind|some l=>
  let⟨j,cap,P,m,V,X⟩:=(bA.ik (e:=1) rfl).1 T;simp only[kE]at P V;simp only[fL]at p D t;have E:j=⟨ac6 j,j.off,O⟩∧Z j.block:=by
   rcases m with m|⟨m,Y⟩
   omega;exact⟨by let⟨b,o,sp⟩:=j;cases m;rfl,Y⟩
  let⟨u,off,sp⟩:=j;let⟨m,gz⟩:=E;cases m;have hv:vals=#[.slice (J ⟨u,off,O⟩) l.length cap]:=vx.kU (l:=[.slice (J ⟨u,off,O⟩) l.length cap]) B λi hi=>by
   match i,hi with|0,_=>exact P
  subst hv;have hx:∀(k:U)v,(l.map λs=>N4 ⟨abf s⟩)[k]?=J v→ve w ⟨u,off+k,O⟩=J v:=by intro k v hk;rw[iQ,pT]at hk;obtain⟨s,R,rfl⟩:=hk;let⟨q1,q2⟩:=X.aE (i:=k) (x:=[.bh s]) (by rw[iQ,R];rfl);let⟨⟨v0,A,s0⟩,_⟩:=q2;have A:ve w ⟨u,off+k*1,O⟩=J v0:=A;rw[Nat.mul_one]at A;rw[A];exact bX J s0
  refine(vx.asn u off l.length cap (l.map λs=>N4 ⟨abf s⟩) w (by simp) p (by omega) t hx).mono ?_;rintro e w' ⟨d,q,b,cp,cs,rfl,hq,hqb,hb,G,H,hwq,hcs⟩;have K:∀b,b<w.heap.size→ω b=O→w'.heap[b]?=w.heap[b]? :=λb N _=>ady d b N;refine⟨_,_,_,_,rfl,BX (Z':=λc=>Z c∨c=q) (bks:=[b]) a C d.os d.tape d.output d.size K (λ_ h=>.inl h) (λb h=>h.imp id λh=>by omega) (λc n=>?_) rfl ⟨rfl,.inr ⟨0,b,rfl,rfl,rfl⟩⟩ rfl (by simp) (λi c cs h z=>?_) (λi h=>cO h (Nat.not_lt_zero i))⟩;rcases n with n|rfl
  exact pW (a.dp c n) d.size;omega;cases i with|succ i=>simp at h|zero=>cases h;cases z;refine⟨?_,λh=>cO h (by omega),_,_,_,_,H,by simp,[.int .u32 0,.int .i32 0,.int .u32 0,.rep 343 [],.sl 1 (l.map (bf .bh))],rfl,rfl,rfl,rfl,rfl,?_,trivial⟩;rintro (h|h);have:=a.dp b h;omega;omega;refine(bA.ik (e:=1) rfl).2 ⟨⟨q,0,O⟩,cp,by simp,.inr ⟨rfl,.inr rfl⟩,by simpa using G,dy.dX λk x hk=>?_⟩;rw[iQ,pT]at hk;obtain⟨s,R,rfl⟩:=hk;refine⟨rfl,⟨_,?_,rfl⟩,trivial⟩;grind [er]
 cases hy;cases g;cases g
def asp:lx prog 149 (M5.F wo):=qk Tryz.func149 (by kernel_rfl) rfl aso
def ad8:cU:=M5.fD (by kernel_rfl) wo
def asq:dr prog (149,ad8):=asp
abbrev T0:{p:dT×cU // dr prog p}:=⟨(149,ad8),asq⟩
def B2:bQ:={args:=[.aW (.aB 0) 0,.one .s],aI:=[.cells [.i .u32,.i .i32,.i .u32,.r 343,.n .data .bh]],res:=[.one .s],jg:=[[J (.i .u32),J (.i .i32),O,J (.r 343),J (.n .data .bh)]]}
def ad9{ps:M (ao×M ao)}{s:M ao}(h:BP ps s=W):vx.gG ps∧Y s≤1073741824∧Y (vx.ia ps s)≤1099511627776:=by simp only[BP,ck,eY,gy]at h;let⟨⟨⟨⟨⟨h1,h2⟩,h3⟩,a⟩,b⟩,c⟩:=h;exact⟨⟨h1,h2,h3,a⟩,b,c⟩
def aea:∀(l:M (M ao))ps,wq l=J ps→Y l=2*Y ps∧∀(k:U)p,ps[k]?=J p→l[2*k]?=J [p.1]∧l[2*k+1]?=J p.2
 |[],_,h=>by cases h;simp
 |[_],_,h=>by simp[wq]at h|[]::_::_,_,h=>by simp[wq]at h|(_::_::_)::_::_,_,h=>by simp[wq]at h|[c]::n::r,ps,h=>by simp only[wq,pT]at h;obtain⟨q,a,rfl⟩:=h;let⟨h1,h2⟩:=aea r q a;grind
def asr:iD prog 150 (B2.F λx=>tN x.1 x.2):=by
 intro args aI r hF w vals β ω Z hsz hok hpl a;unfold bQ.F at hF;split at hF;rename_i f hz;let⟨s,x0,x1,x2,v,ol⟩:=f;let⟨h1,h2⟩:=bQ.jf B2 (by kernel_rfl) hz;subst h1 h2;let⟨b,ws,el,lo,hi,P,E,R,hfz,m⟩:=a.aI (.aB 0);split at hF;rename_i y hy;cases hF;have m:aQ (λu c=>aR (cY prog 0 w vals β ω Z) β Z (dm (jq aL (B2.eQ (s,x0,x1,x2,v,ol))) (jq aU (B2.fC (s,x0,x1,x2,v,ol)))) {tmps:=#[],defers:=[]} w c u) ws.toList [.d (.int .u32 x0),.d (.int .i32 x1),.d (.int .u32 x2),.d (.rep 343 v),cE (.n .data .bh ol)]:=m;have hlen:ws.size=5:=by have:=m.length;simpa using this
 let⟨v0,e0,G⟩:=m.aE (j:=0) (b:=.d (.int .u32 x0)) rfl;let⟨v1,e1,r1⟩:=m.aE (j:=1) (b:=.d (.int .i32 x1)) rfl;let⟨v2,e2,r2⟩:=m.aE (j:=2) (b:=.d (.int .u32 x2)) rfl;let⟨v3,e3,r3⟩:=m.aE (j:=3) (b:=.d (.rep 343 v)) rfl;let⟨v4,e4,r4⟩:=m.aE (j:=4) (b:=cE (.n .data .bh ol)) rfl;have G:v0=.int .u32 x0:=G;have r1:v1=.int .i32 x1:=r1;have r2:v2=.int .u32 x2:=r2;have r3:my w Z 343 v v3:=r3;subst G r1 r2;have Am:ws=#[.int .u32 x0,.int .i32 x1,.int .u32 x2,v3,v4]:=by grind
 subst Am;have H:∀o,o<5→¬(lo≤o∧o<hi):=hfz;have S:¬Z b:=(a.dZ b _ E).1;have Ao:b<w.heap.size:=(a.dZ b _ E).2.1;have hv:vals=#[.pointer (J ⟨b,0,O⟩),.string ⟨abf s⟩]:=vx.kU (l:=[.pointer (J ⟨b,0,O⟩),.string ⟨abf s⟩]) hsz λi hi=>by
  match i,hi with
  |0,_=>let⟨b',q1,q2⟩:=(a.args 0).2;rw[P]at q1;cases q1;exact q2
  |1,_=>exact(a.args 1).2
 subst hv;have T:∃d,cE (.n .data .bh ol)=C.d d∧bA w Z d v4:=by
  cases ol with|none=>exact⟨.nil,rfl,r4⟩|some l=>exact⟨.sl 1 (l.map (bf .bh)),rfl,r4⟩
 let⟨d4,hd4,T⟩:=T;simp only[tN]at hy;split at hy;rename_i V;subst V;split at hy;rename_i hg;cases hy;let⟨K,X,Y⟩:=ad9 hg;have M6:∃g,v3=.iface 343 (.pointer (J ⟨g,0,O⟩))∧Z g∧rx w Z v g:=by
  cases v with|nil=>exact cO K.m2 (by simp)|cons p l=>exact r3
 obtain⟨g,rfl,hZg,hBu⟩:=M6;refine(vx.asm b g v s Z undef undef undef w K ⟨_,_,_,R,rfl,rfl⟩ X Y a.dp hZg hBu).mono ?_;rintro e w' ⟨z,rfl⟩;have hfr:∀b,b<w.heap.size→ω b=O→w'.heap[b]?=w.heap[b]? :=λb hb' _=>ady z b hb';have hZk:∀c,Z c→w'.heap[c]?=w.heap[c]? ∧Z c:=λc D=>⟨ady z c (a.dp c D),D⟩;refine⟨_,_,_,_,rfl,BX (Z':=Z) (bks:=[b]) a hok z.os z.tape z.output z.size hfr (λ_ h=>h) (λ_ h=>.inl h) (λc hz=>pW (a.dp c hz) z.size) rfl ⟨rfl,.inl ⟨_,rfl,rfl⟩⟩ rfl (by simp) (λi c cs h D=>?_) (λi h=>?_)⟩;cases i with|succ i=>simp at h|zero=>cases h;cases D;exact⟨S,λ_=>by rw[E];simp,_,_,_,_,ab0 (ady z b Ao) R,hfz,[.int .u32 1,.int .i32 x1,.int .u32 x2,.rep 343 v,d4],by show _=[_,_,_,_,C.d d4];rw[←hd4];rfl,rfl,rfl,rfl,my.mono hZk r3,bA.mono hZk _ _ T,trivial⟩
 match i,h with|0,_=>exact⟨b,rfl,P⟩
 cases hy;split at hy;rename_i V;let⟨h0,h1⟩:=V;subst h0 h1;split at hy;rename_i ps hps;split at hy;rename_i hg;cases hy;let⟨K,X,Y⟩:=ad9 hg;let⟨N,B⟩:=aea _ _ hps;have asu:∃q o cap,v4=.slice (J ⟨q,o,O⟩) (2*ps.length) cap∧Z q∧vx.Raw ps q o cap w:=by
  cases ol with
  |none=>exact cO K.m2 (by grind)|some l=>
   simp only[fL]at N B;have h0:bA w Z (.sl 1 (l.map (bf .bh))) v4:=r4;let⟨ad,cap,g1,g2,g3,g4⟩:=(bA.ik (e:=1) rfl).1 h0;simp only[kE]at g1 g3;have hm2:=K.m2;have Pm:ad=⟨ac6 ad,ad.off,O⟩∧Z ad.block:=by
    rcases g2 with g2|⟨g2,g5⟩
    omega;exact⟨by let⟨b,o,sp⟩:=ad;cases g2;rfl,g5⟩
   let⟨bl,off,sp⟩:=ad;let⟨g2,gz⟩:=Pm;cases g2;have hx:∀(k:U)(t:M ao),l[k]?=J t→ve w ⟨bl,off+k,O⟩=J (.string ⟨abf t⟩):=(by intro k t hk;let⟨q1,q2⟩:=g4.aE (i:=k) (x:=[.bh t]) (by rw[iQ,hk];rfl);let⟨⟨v0,G,s0⟩,_⟩:=q2;have G:ve w ⟨bl,off+k*1,O⟩=J v0:=G;rw[Nat.mul_one]at G;rw[G];exact bX J s0);exact⟨bl,off,cap,by rw[g1,N],gz,λk p hp=>hx _ _ (B k p hp).1,λk p hp=>hx _ _ (B k p hp).2,by omega,a.dp bl gz⟩
 obtain⟨q,o,cap,rfl,hZq,hR⟩:=asu;have hqb:q≠b:=λh=>S (h▸hZq);refine(vx.asl b q o cap ps s _ _ el lo hi H w K hR R hqb X Y).mono ?_;rintro e w' ⟨rfl,A,g,Ke,hg2,hg3,TV⟩;have hfr:∀c,c<w.heap.size→ω c=O→w'.heap[c]?=w.heap[c]? :=λc D hn=>A.block c D (λh=>by grind);have hBu:=TV.built hg3 (by have:=K.m2;omega);refine⟨_,_,_,_,rfl,BX (Z':=λc=>Z c∨(w.heap.size≤c∧c<w'.heap.size)) (bks:=[b]) a hok A.os A.tape A.output A.size hfr (λ_ h=>.inl h) (λ_ h=>h.imp id λh=>h.1) (λc hz=>hz.elim (λh=>pW (a.dp c h) A.size) λh=>h.2) rfl ⟨rfl,.inl ⟨_,rfl,rfl⟩⟩ rfl (by simp) (λi c cs h D=>?_) (λi h=>?_)⟩;cases i with
 |succ i=>simp at h|zero=>
  cases h;cases D;refine⟨λh=>h.elim S λh=>by omega,λ_=>by rw[E];simp,_,_,_,_,Ke,H,[.int .u32 1,.int .i32 0,.int .u32 x2,.rep 343 ps,.nil],rfl,rfl,rfl,rfl,?_,rfl,trivial⟩;have:my w' (λc=>Z c∨(w.heap.size≤c∧c<w'.heap.size)) 343 ps (.iface 343 (.pointer (J ⟨g,0,O⟩))):=by
   cases ps with|nil=>exact cO K.m2 (by simp)|cons p l=>exact⟨g,rfl,.inr ⟨hg2,hg3⟩,rx.mono (w:=w') (λc D=>⟨rfl,.inr D⟩) ⟨hg2,hg3⟩ hBu⟩
  exact this
 match i,h with|0,_=>exact⟨b,rfl,P⟩
 cases hy;cases hy;cases hy;cases hF;cases hF
def asx:lx prog 150 (B2.F λx=>tN x.1 x.2):=qk Tryz.func150 (by kernel_rfl) rfl asr
def aec:cU:=B2.fD (by kernel_rfl) λx=>tN x.1 x.2
def asy:dr prog (150,aec):=asx
abbrev T3:{p:dT×cU // dr prog p}:=⟨(150,aec),asy⟩
def B97:Bd:=gd func97 (sg [.one (.n .data bo)] [oS,oI]) FG (fy 9 [24,32,46,54,62] [2,3] 4629814770467279229 [.aw 8,.cm 15 0]) [MY,T0,T3,MV,Tx] (ll [⟨⟨[5,6,16,17,18],[(.cm 15 0)],[.a6 6 .s,sI 18,.cell (.cm 15 0) 0 (.i .u32),.cell (.cm 15 0) 1 (.i .i32),.cell (.cm 15 0) 3 (.r 343),.cell (.cm 15 0) 4 (.n .data .bh)]⟩,[(.ret,⟨[2,3],[],[.a6 2 .s,sI 3]⟩),(.exit 0,⟨[6],[],[.a6 6 .s]⟩)],O⟩])
def B98:Bd:=gd func98 (sg [.one (.n .data bo)] [oS,oI]) FI (fy 9 [24,32] [2,3] 4321120637 [.aw 8,.cm 15 0]) [MY,T0,T3] (ll [⟨⟨[5,6,16,17,18],[(.cm 15 0)],[.a6 6 .s,sI 18,.cell (.cm 15 0) 0 (.i .u32),.cell (.cm 15 0) 1 (.i .i32),.cell (.cm 15 0) 3 (.r 343),.cell (.cm 15 0) 4 (.n .data .bh)]⟩,[(.ret,⟨[2,3],[],[.a6 2 .s,sI 3]⟩),(.exit 0,⟨[6],[],[.a6 6 .s]⟩)],O⟩])
def B99:Bd:=gd func99 (sg [.one (.n .data bo)] [oS,oI]) FJ (fy 9 [24,32] [2,3] 4321120637 [.aw 8,.cm 15 0]) [MY,T0,T3] (ll [⟨⟨[5,6,16,17,18],[(.cm 15 0)],[.a6 6 .s,sI 18,.cell (.cm 15 0) 0 (.i .u32),.cell (.cm 15 0) 1 (.i .i32),.cell (.cm 15 0) 3 (.r 343),.cell (.cm 15 0) 4 (.n .data .bh)]⟩,[(.ret,⟨[2,3],[],[.a6 2 .s,sI 3]⟩),(.exit 0,⟨[6],[],[.a6 6 .s]⟩)],O⟩])
def aeg:Bd:=gd func137 (sg [oI,.one (.n .data bo)] [oS,oI]) (u2 FK) (fy 6 [7,13] [4,5] 8435) [B97,B98,B99]
abbrev T4:cU:=aeg.1.2
def asz:dr prog (137,T4):=aeg.2
def F83:iF:={af:={N:=153,T:=T,R:=R,fD:=λ_ f=>oL f [(25,TC),(26,TG),(29,Gn),(135,TS),(136,TT),(137,T4),(60,TE),(138,T5),(31,T6),(30,T7),(139,T8),(44,MR)],var:=[0,1,2,3,9,11,12,13,14,15,16,17,18,20,21,22],res:=[8,9],eqs:=EQ,dat:=[9,11,12,13,14,15,16,17,18,20,21,22],nb:=W,rk:=W},keys:=[0,1,2,3,4,8,9,10,11,12,13,14,15,16,17,18,19,20,21,22,23,28,38,52,68,71,72,73,74,89,123,133,150],hI:=[.aw 4,.aw 8,.aw 10,.aw 19,.aw 23]}
def Gt:bQ:={args:=[.bC dS,.one (.i .i64),.one (.n .data jk),.one (.n .data nI)],aI:=[],res:=[.bC dS,.one (.i .i64)],jg:=[],cH:=[]}
def L83:U→Q gJ:=λn=>match n with|0=>J {head:={live:=[1,2,3,4,8,10,12,14,15,16,17,71,72,73],fO:=[(.aw 4),(.aw 8),(.aw 10)],vs:=[.a6 16 .s,.a6 17 (.i .i64),.a6 73 (.i .i64)]},gq:=[(.ret,{live:=[8,9],fO:=[(.aw 8)],vs:=[.a6 9 (.i .i64),.cell (.aw 8) 0 (.i .i64),.cell (.aw 8) 1 (.n .ak dx)]}),(.exit 0,{live:=[1,2,3,4,8,10,12,14,16,17],fO:=[(.aw 4),(.aw 8),(.aw 10)],vs:=[.a6 16 .s,.a6 17 (.i .i64)]})]}|_=>O
set_option maxRecDepth 100000 in
def asL:∀x,rS F83 L83 f83 Gt x=(λx=>oP x.1 x.2.1 x.2.2.1 x.2.2.2) x:=by intro x;kernel_rfl
def aeo:iD prog 83 (Gt.F (λx=>oP x.1 x.2.1 x.2.2.1 x.2.2.2)):=tu (F:=F83) (tbl:=L83) func83 (by kernel_rfl) mix (vQ (l:=[(25,TC),(26,TG),(29,Gn),(135,TS),(136,TT),(137,T4),(60,TE),(138,T5),(31,T6),(30,T7),(139,T8),(44,MR)]) (pJ rfl rfl) rfl (gC.2 ⟨G25,gC.2 ⟨G26,gC.2 ⟨G29,gC.2 ⟨arG,gC.2 ⟨arK,gC.2 ⟨asz,gC.2 ⟨G60,gC.2 ⟨asD,gC.2 ⟨G31,gC.2 ⟨G30,gC.2 ⟨asK,gC.2 ⟨G44,by simp⟩⟩⟩⟩⟩⟩⟩⟩⟩⟩⟩⟩)) (by kernel_rfl) (by kernel_rfl) (by decide) (λ_=>by kernel_rfl) asL
def C83:cU:=Gt.fD (by kernel_rfl) (λx=>oP x.1 x.2.1 x.2.2.1 x.2.2.2)
def G83:dr prog (83,C83):=tw func83 (by kernel_rfl) (by kernel_rfl) aeo
abbrev B83:{p:dT×cU // dr prog p}:=⟨(83,C83),G83⟩
def asO:Bd:=gd func196 (sg [.aW (.aB 0) 0,.bC fj,.one (.n .data bo)] [oI] [.cells [.n .data dS,.n .data fj,.i .i64,.l .ak oR]] [[O,O,O,O]]) (u3 Mh) (fx 10 [6] 272634583 [.aB 0,.aw 4,.aw 8]) [aro,MY,B47,B83]
def asP:Bd:=gd func134 (sg [.aW (.aB 0) 0,oI,.one (.l .ak S6)] [oI] [.cells [.n .data dS,.n .data fj,.i .i64,.l .ak oR]] [[O,O,O,O]]) (u3 F3) (fx 12 [6] 39614688081225217563361807303 [.aB 0,.aw 7,.aw 10]) [Gm,arf,B48,asO]
def B81:Bd:=gd func81 ⟨[.bC fS],[],[.aW (.aB 0) 0,oI],[[J (.n .data dS),J (.n .data fj),J iI,J (.l .ak oR)]],[],W⟩ Ml ({fx 16 [2,3] 19879576200936570669336952815 [.aw 1,.aw 5,.aw 9,.aw 14,.aw 51]with nd:=[12],un:=[49]}) [TB,aq6,arc,asP] (ll [⟨⟨[1,27,28,29],[(.aw 1)],[sI 29]⟩,[(.ret,⟨[2,3],[],[.a6 2 (.u .aW),sI 3]⟩),(.exit 0,⟨[1],[(.aw 1)],[]⟩)],O⟩,⟨⟨[7,53,54,55],[(.aw 51)],[sI 55,.cell (.aw 51) 0 (.n .data dS),.cell (.aw 51) 1 (.n .data fj),.cell (.aw 51) 2 iI,.cell (.aw 51) 3 (.l .ak oR)]⟩,[(.exit 2,⟨[7],[(.aw 51)],[.cell (.aw 51) 0 (.n .data dS),.cell (.aw 51) 1 (.n .data fj),.cell (.aw 51) 2 iI,.cell (.aw 51) 3 (.l .ak oR)]⟩)],O⟩,⟨⟨[7,8,53,54,55,62],[(.aw 51)],[.cell (.aw 51) 0 (.n .data dS),.cell (.aw 51) 1 (.n .data fj),.cell (.aw 51) 2 iI,.cell (.aw 51) 3 (.l .ak oR)]⟩,[(.exit 4,⟨[7,53,54,55],[(.aw 51)],[.cell (.aw 51) 0 (.n .data dS),.cell (.aw 51) 1 (.n .data fj),.cell (.aw 51) 2 iI,.cell (.aw 51) 3 (.l .ak oR)]⟩)],J 62⟩,⟨⟨[7,12,82,83,84],[(.aw 51)],[.a6 12 (.l .ak S6),sI 84]⟩,[(.ret,⟨[2,3],[],[.a6 2 (.u .aW),sI 3]⟩),(.exit 6,⟨[7],[(.aw 51)],[]⟩)],O⟩])
def M7:Bd:=gd func41 ⟨[.bC fS,oI],[],[.aW (.aB 0) 0,oI],[[J (.n .data dS),J (.n .data fj),J iI,J (.l .ak oR)]],[],W⟩ (u2 r9) (fx 8 [4,5] 134234359 [.aw 2,.cm 10 0]) [B81]
abbrev tU:=az×List ao×List ao
abbrev tP:Ty:=.bG .bool (.bG .bh .bh)
abbrev tI:Ty:=.bG (.int .i64) (.bG .bh (.int .i64))
abbrev tR:Ty:=.bG (.int .i64) (.int .i64)
def dN(t:Ty)(o:Option (List t.T)):D:=match o with|none=>.nil|some l=>.sl t.e (l.map (bf t))
def vu(t:Ty)(o:Option (List t.T)):cE (.n .data t o)=.d (dN t o):=by cases o<;>rfl
def Gu(w w':World)(Z1 a:Nat→Prop):Prop:=c7 w.heap.size w w'∧(∀b,Z1 b→a b)∧(∀b,a b→Z1 b∨w.heap.size≤b)∧∀b,a b→b<w'.heap.size
section
variable{w0 w:World}{vals:Array Value}{β:aC→Option Nat}{ω:Nat→Option cT}{Z Z1:Nat→Prop}{args:List SV}{aI:List (List C)}
def asW(h:aY (cY prog 0 w0 vals β ω Z) β ω Z (dm args aI) {tmps:=#[],defers:=[]} w0)(p:c7 w0.heap.size w0 w)(hZ:∀b,Z b→Z1 b)(k:∀b,Z1 b→b<w.heap.size) {fmt:L}{ps:Option (List tU)}{hv:Value}{us:Option (List L)}(l:bA w Z1 (dN tP ps) hv)(q:nH (fmt,ps)=J us):ez prog 82 #[.agg #[.int .i64 fmt,hv]] w λe w'=>∃v j,e=.returned v∧Gu w w' Z1 j∧bA w' j (dN (.int .i64) us) v:=by
 have f:(Gl.eQ (fmt,ps)).map aL=[.agg [.d (.int .i64 fmt),.d (dN tP ps)]]:=by cases ps<;>rfl
 refine(M8 (S:=Gl) (x:=(fmt,ps)) adz (by kernel_rfl) rfl rfl q h p hZ k rfl (by rw[f];rfl) (λi c g e xs=>?_) (λi=>?_)).mono ?_;rw[f]at g;match i,g with
 |0,g=>simp[SV.cells]at g;rcases g with rfl|rfl<;>simp
 |i+1,g=>simp[SV.cells]at g
 rw[f];match i with|0=>exact⟨_,rfl,rfl,l,trivial⟩|i+1=>trivial
 rintro e w' ⟨h1,v,j,K,m,s,a,rfl,h2,h3,r,t⟩;have o:aR K m j s a w' (cE (.n .data (.int .i64) us)) v:=t.2;rw[vu]at o;exact⟨v,j,rfl,⟨h1,h2,h3,r⟩,o⟩
def asX(m:aY (cY prog 0 w0 vals β ω Z) β ω Z (dm args aI) {tmps:=#[],defers:=[]} w0)(N:c7 w0.heap.size w0 w)(hZ:∀b,Z b→Z1 b)(p:∀b,Z1 b→b<w.heap.size) {fmt part:L}{ps:Option (List tU)}{hv E F:Value}{rs:Option (List (L×L))}{ts:Option (List (Option (List (L×List ao×L))))}{fmt':L}{h:Option (List tU)}{e':L} (q:bA w Z1 (dN tP ps) hv)(n:bA w Z1 (dN tR rs) E)(o:bA w Z1 (dN (.sl tI) ts) F)(P:oP (fmt,ps) part rs ts=J ((fmt',h),e')):ez prog 83 #[.agg #[.int .i64 fmt,hv],.int .i64 part,E,F] w λe w'=>∃oU j,e=.returned (.tuple #[.agg #[.int .i64 fmt',oU],.int .i64 e'])∧Gu w w' Z1 j∧bA w' j (dN tP h) oU:=by
 have f:(Gt.eQ ((fmt,ps),part,rs,ts)).map aL=[.agg [.d (.int .i64 fmt),.d (dN tP ps)],.one (.d (.int .i64 part)),.one (.d (dN tR rs)),.one (.d (dN (.sl tI) ts))]:=by cases ps<;>cases rs<;>cases ts<;>rfl
 refine(M8 (S:=Gt) (x:=((fmt,ps),part,rs,ts)) aeo (by kernel_rfl) rfl rfl P m N hZ p rfl (by rw[f];rfl) (λi c g e xs=>?_) (λi=>?_)).mono ?_;rw[f]at g;match i,g with
 |0,g=>simp[SV.cells]at g;rcases g with rfl|rfl<;>simp
 |1,g=>simp[SV.cells]at g;subst g;simp|2,g=>simp[SV.cells]at g;subst g;simp|3,g=>simp[SV.cells]at g;subst g;simp|i+4,g=>simp[SV.cells]at g
 rw[f];match i with|0=>exact⟨_,rfl,rfl,q,trivial⟩|1=>exact⟨rfl,rfl⟩|2=>exact⟨xD n,n⟩|3=>exact⟨xD o,o⟩|i+4=>trivial
 rintro e w' ⟨h1,v,j,K,k,s,a,rfl,h2,h3,R,r⟩;have r:bO (aR K k j s a w') v (.bw [(W,[.d (.int .i64 fmt'),.d (dN tP h)]),(I,[.d (.int .i64 e')])]):=by cases h<;>exact r
 obtain⟨vs,rfl,G⟩:=r;obtain⟨l,t⟩:∃l,vs=List.toArray l:=⟨vs.toList,by simp⟩;subst t;simp only at G;match l,G with
 |[T,u2],⟨y,z,_⟩=>
  have y:∃ws:Array Value,T=.agg ws∧aQ (λu c=>aR K k j s a w' c u) ws.toList [C.d (D.int .i64 fmt'),C.d (dN tP h)]:=y;have z:∃c,[C.d (D.int .i64 e')]=[c]∧hJ u2=W∧aR K k j s a w' c u2:=z;obtain⟨ws,rfl,H⟩:=y;let⟨c,g,_,A⟩:=z;cases g;have A:u2=.int .i64 e':=A;subst A;obtain⟨l,t⟩:∃l,ws=List.toArray l:=⟨ws.toList,by simp⟩;subst t;simp only at H;match l,H with|[V,X],⟨B,Y,_⟩=>have B:V=.int .i64 fmt':=B;subst B;exact⟨X,j,rfl,⟨h1,h2,h3,R⟩,Y⟩
end
def B46:Bd:=gd func46 (sg [oI,.bC fj,.aW (.aB 0) 0] [oB] [.kK (.aB 1) 0,.cells [.n .data dS,.n .data fj,.i .i64,.l .ak oR]] [[O],[O,O,O,O]]) (u3 Mn) (fy 0 [0,1,3,4,5] [5] 55 [.aB 0,.aB 1,.aw 4]) [B48,B47]
def B49:Bd:=gd func49 (sg [oI,oS] [oN]) (u2 F9) (fy 6 [7,14,21] [4] 2113779) [B94,B95,B96]
def B50:Bd:=gd func50 (sg [oI,.one (.n .data bo)] [oS]) (u2 Mp) (fy 6 [7,14,21] [4] 2113779) [B97,B98,B99]
def B33:Bd:=gd func33 (sg [.bC fS,oI] [oN]) (u2 Mm) (fx 10 [4] 68782523127 [.aw 2,.aw 9,.cm 13 0]) [M7] (ll [⟨⟨[1,7,22,23,24],[],[.a6 7 (.n .ak (.int .i64)),sI 24]⟩,[(.exit 0,⟨[7],[],[.a6 7 (.n .ak (.int .i64))]⟩)],O⟩])
def B39:Bd:=gd func39 (sg [.aW (.aB 0) 0,oI] [.bC fS] [.bC qG] [[O,J iI]]) (u2 MI) (fy 4 [5,6,7] [4] 8454387 [.aB 0,.aw 4,.aw 5]) [B78,B37,B36,tW,B80] (ll [⟨⟨[0,4,5,7],[(.aB 0),(.aw 4),(.aw 5)],[sI 7,.cell (.aB 0) 1 iI,.cell (.aw 5) 0 (.n .data dS),.cell (.aw 5) 1 (.n .data fj),.cell (.aw 5) 2 iI]⟩,[(.exit 0,⟨[4,5],[(.aB 0),(.aw 4),(.aw 5)],[.cell (.aB 0) 1 iI,.cell (.aw 5) 0 (.n .data dS),.cell (.aw 5) 1 (.n .data fj),.cell (.aw 5) 2 iI]⟩)],O⟩])
def B11:Bd:=gd func11 (sg [oN] [.bC fS]) BS (fx 2 [2] 5 [.aw 2,.cm 4 0]) [B40,B39]
abbrev Gy:cU:=B11.1.2
def G11:dr prog (11,Gy):=B11.2
end
end Go.Proofs.YtgbmhohlapmgbaaGreatDoor.vd
namespace Go.Proofs.YtgbmhohlapmgbaaGreatDoor.vx
noncomputable section
section
open Go Go.RowKit Go.Proofs Go.ChangeMaps Go.MapKept
open Go.Vs (aY cY dm bA SV C D aC cT)
open Go.Fd (nH oP jX)
structure Sg where
 id:Int
 doc:Int
 part:Int
 fr:Int
 to:Int
 state:Int
 tp:Option Addr
 tn:Nat
 tc:Nat
 oV:ByteArray
 src:Int
 fl:Bool
def Sg.tgt(s:Sg):aJ:=.slice s.tp s.tn s.tc
def Sg.cells(s:Sg):bW aJ:=#[.int .i64 s.id,.int .i64 s.doc,.int .i64 s.part,.int .i64 s.fr,.int .i64 s.to,.int .i64 s.state,s.tgt,.string s.oV,.int .i64 s.src,.bool s.fl]
def kp(sg:U→Sg)(keep:U→az)(num:L)(k:U)(p:L):M U:=(iz k).filter λi=>decide ((sg i).doc=num)&&(keep i&&decide ((sg i).part=p))
def GK(w:bZ)(R:U)(sg:U→Sg)(keep:U→az)(num:L)(k:U):Prop:=(∃V,GM w 41 2 (R+1) (R+3) k V (λp=>Y (kp sg keep num k p)) λp=>(kp sg keep num k p).flatMap λi=>[.int .i64 (sg i).fr,.int .i64 (sg i).to])∧∃V,GM w 42 1 (R+2) (R+3) k V (λp=>Y (kp sg keep num k p)) λp=>(kp sg keep num k p).map λi=>(sg i).tgt
def asY:(be.info? 41).map (λi=>(i.zero,i.size,i.bytes))=J (J (.agg #[.int .i64 0,.int .i64 0]),2,16):=by kernel_rfl
def asZ:(be.info? 42).map (λi=>(i.zero,i.size,i.bytes))=J (J (.slice O 0 0),1,24):=by kernel_rfl
def T9(w:bZ):(zeroValue 113).run be w=.ok (.slice O 0 0) w:=by kernel_rfl
def Ua(w:bZ):(zeroValue 132).run be w=.ok (.slice O 0 0) w:=by kernel_rfl
def aet{a:bZ}{base b e d size c n j:U}{u v:aJ}{xs ys:M aJ}(o:e≠d)(h:adK a base e size u n xs)(k:adK a b d c v j ys):acg u=O∨acg u≠acg v:=by
 rcases h.2 with⟨rfl,_⟩|⟨g,cap,l,rfl,_,p,_⟩
 exact .inl rfl;rcases k.2 with⟨rfl,_⟩|⟨q,f,i,rfl,_,m,_⟩
 grind [N8];grind [N8]
def Ub{sg:U→Sg}{keep:U→az}{num:L}{k:U}(h1:(sg k).doc=num)(h2:keep k=W)(p:L):kp sg keep num (k+1) p=if p=(sg k).part then kp sg keep num k p++[k]else kp sg keep num k p:=by grind [Proofs.YtgbmhohlapmgbaaGreatDoor.vx.kp,xc]
def aeu{sg:U→Sg}{keep:U→az}{num:L}{k:U}(h:(sg k).doc≠num∨keep k=I)(p:L):kp sg keep num (k+1) p=kp sg keep num k p:=by unfold kp;grind [xc]
theorem GK.keep{w w':bZ}{R:U}{sg:U→Sg}{keep:U→az}{num:L}{k k':U}(h:GK w R sg keep num k)(c:w.grownBy w' O)(e:∀p,kp sg keep num k' p=kp sg keep num k p)(hk:k≤k':=by omega):GK w' R sg keep num k':=by
 have d:∀(u:aJ),acg u=O∨acg u≠O:=λu=>by cases h:acg u<;>simp
 let⟨⟨f,a⟩,g,b⟩:=h;have a:=a.keep c (by simp) (λq=>d _);have b:=b.keep c (by simp) (λq=>d _);refine⟨⟨f,?_⟩,g,?_⟩;simp only[e];exact a.mono hk;simp only[e];exact b.mono hk
def as0{w:bZ}{Z:U→Prop}{us:Q (M L)}{v:aJ}(h:bA w Z (vd.dN (.int .i64) us) v):∃(p:Q ey)(g off len cap:U),v=.slice p len cap∧len=Y (X us [])∧(0<len→p=J ⟨g,off,O⟩∧Z g)∧∀(j:U)x,(X us [])[j]?=J x→ve w ⟨g,off+j,O⟩=J (.int .i64 x):=by
 cases us with
 |none=>exact⟨O,0,0,0,0,h,rfl,λh=>cO h (Nat.lt_irrefl 0),λj x c=>by simp at c⟩|some l=>
  let⟨a,cap,k,d,m,n⟩:=(Vs.bA.ik (e:=1) rfl).1 h;simp only[kE]at k m;refine⟨J a,ac6 a,a.off,Y l,cap,k,rfl,λt=>?_,λj x c=>?_⟩;rcases d with d|⟨d,q⟩
  omega;exact⟨by let⟨b,o,u⟩:=a;cases d;rfl,q⟩;have c:l[j]?=J x:=c;let⟨y,r⟩:=n.aE (i:=j) (x:=[.int .i64 x]) (by rw[iQ,c];rfl);let⟨⟨v0,f,s⟩,_⟩:=r;have f:ve w ⟨ac6 a,a.off+j*1,O⟩=J v0:=f;rw[Nat.mul_one]at f;rw[f];exact bX J s
theorem aev{w:bZ}{Z:U→Prop}{a:Q (M vd.tU)}{v:aJ}(h:bA w Z (vd.dN vd.tP a) v):∃p n c,v=.slice p n c:=by
 cases a with|none=>exact⟨O,0,0,h⟩|some l=>let⟨d,cap,b,_⟩:=(Vs.bA.ik (e:=3) rfl).1 h;exact⟨_,_,_,b⟩
def aew{α:Type}(a b:α→aJ):∀(l:M α)(k:U),(l.flatMap λi=>[a i,b i])[2*k]?=l[k]?.map a∧(l.flatMap λi=>[a i,b i])[2*k+1]?=l[k]?.map b|[],k=>by simp|x::l,0=>by simp|x::l,k+1=>by have:=aew a b l k;grind
def Uc{w:bZ}{base e size n g cap:U}{xs:M aJ}(h:adK w base e size (.slice (J ⟨g,0,O⟩) n cap) n xs){j:U}{v:aJ}(c:xs[j]?=J v):ve w ⟨g,j,O⟩=J v:=by
 have h1:=h.1;rcases h.2 with⟨h,_⟩|⟨d,a,b,h,_,f,_,_,_,i⟩
 cases h;grind [er]
def as1{w:bZ}{Z:U→Prop}{base n g cap:U}{l:M U}{sg:U→Sg}(h:adK w base 41 2 (.slice (J ⟨g,0,O⟩) n cap) n (l.flatMap λi=>[.int .i64 (sg i).fr,.int .i64 (sg i).to]))(hn:n=Y l)(b:n≤cap)(hZ:Z g):bA w Z (vd.dN vd.tR (J (l.map λi=>((sg i).fr,(sg i).to)))) (.slice (J ⟨g,0,O⟩) n cap):=by
 subst hn;refine(Vs.bA.ik (e:=2) rfl).2 ⟨⟨g,0,O⟩,cap,by simp,.inr ⟨rfl,hZ⟩,by simpa using b,Vs.dy.dX λk x a=>?_⟩;rw[iQ,pT]at a;obtain⟨y,hy,rfl⟩:=a;rw[iQ,pT]at hy;obtain⟨i,hi,rfl⟩:=hy;let⟨f1,f2⟩:=aew (λi=>nS .i64 (sg i).fr) (λi=>nS .i64 (sg i).to) l k;rw[hi]at f1 f2;have c:=Uc h f1;have d:=Uc h f2;have e:0+k*2=2*k:=by omega
 refine⟨rfl,⟨_,?_,rfl⟩,⟨_,?_,rfl⟩,trivial⟩;grind;grind
def as2{w:bZ}{Z:U→Prop}{base n g cap:U}{l:M U}{sg:U→Sg}{tg:U→Q (M (L×M ao×L))}(h:adK w base 42 1 (.slice (J ⟨g,0,O⟩) n cap) n (l.map λi=>(sg i).tgt))(hn:n=Y l)(c:n≤cap)(hZ:Z g)(d:∀i∈l,bA w Z (vd.dN vd.tI (tg i)) (sg i).tgt):bA w Z (vd.dN (.sl vd.tI) (J (l.map tg))) (.slice (J ⟨g,0,O⟩) n cap):=by
 subst hn;refine(Vs.bA.ik (e:=1) rfl).2 ⟨⟨g,0,O⟩,cap,by simp,.inr ⟨rfl,hZ⟩,by simpa using c,Vs.dy.dX λk x b=>?_⟩;rw[iQ,pT]at b;obtain⟨y,hy,rfl⟩:=b;rw[iQ,pT]at hy;obtain⟨i,hi,rfl⟩:=hy;have m:=Uc h (j:=k) (by rw[iQ,hi];rfl);have a:=d i (fK hi);have e:0+k*1=k:=by omega
 have f:Ve.bf (.sl vd.tI) (tg i)=[vd.dN vd.tI (tg i)]:=by cases tg i<;>rfl
 rw[f];refine⟨rfl,⟨(sg i).tgt,?_,a⟩,trivial⟩;grind
attribute [-go_sem] Builtin.append_
def aex:Code:=match Tryz.f42.body with|some (.seq _ (.seq _ (.seq _ r)))=>r|_=>.skip
set_option maxHeartbeats 4000000 in
set_option maxRecDepth 1000000 in
def as3{vals:bW aJ}{β:aC→Q U}{ω:U→Q cT}{Z:U→Prop}{args:M SV}{aI:M (M C)}(vb cap db dd nd as4 m k:U)(sp:Q ey)(fv:aJ)(keep:U→az)(fmt:L)(hp:Q ey)(S hc:U)(ps:Q (M vd.tU))(us:Q (M L))(res:(L×Q (M vd.tU))×L)(sg:U→Sg)(tg:U→Q (M (L×M ao×L)))(w wa:bZ) (hm:m<nd)(azV:(us.getD []).length≤4294967296)(H:∀x∈us.getD [],(rb .i64 x).wf=W) (c0:wa.cell? ⟨vb,0,O⟩=J (.slice (J ⟨db,dd,O⟩) nd as4))(c1:wa.cell? ⟨db,dd+m*2,O⟩=J (.int .i64 fmt))(c2:wa.cell? ⟨db,dd+m*2+1,O⟩=J (.slice hp S hc)) (G:Hid (aY (cY be 0 w vals β ω Z) β ω Z (dm args aI) {tmps:=#[],defers:=[]} w∧bA w Z (vd.dN vd.tP ps) (.slice hp S hc)∧(∀i,i<k→bA w Z (vd.dN vd.tI (tg i)) (sg i).tgt)∧nH (fmt,ps)=J us∧jX (λp=>kp sg keep (m:L) k p) (λi=>((sg i).fr,(sg i).to)) tg (us.getD []) (fmt,ps)=J res)) (HG:Hid (GK wa w.heap.size sg keep (m:L) k))(hB:c7 w.heap.size w wa)(hsz:w.heap.size+3≤wa.heap.size)(Gv:wa.heap[w.heap.size]?=J (.cells #[.int .i64 0,.slice O 0 0] 48 (0,0)))(Ud Ue Uf Ug Uh Ui Uj u32 Uk Ul Um Un Uo Up Uq Ur Us Ut Uu Uv Uw Ux Uy Uz UA UB UC UD UE UF UG UH UI UJ UK UL UM UN:aJ):Code.wp be aex (bodyPost be Tryz.f42 λe w'=>∃oU Z2,e=.returned (.tuple #[.agg #[.int .i64 res.1.1,oU],.int .i64 res.2])∧vd.Gu w w' Z Z2∧bA w' Z2 (vd.dN vd.tP res.1.2) oU) {tmps:=#[.pointer (J ⟨vb,0,O⟩),.int .i64 (m:L),fv,undef,undef,undef,.pointer (J ⟨w.heap.size,0,O⟩),.int .i64 0,.map (J (w.heap.size+1)),.map (J (w.heap.size+1+1)),Ud,Ue,undef,undef,undef,undef,undef,.map (J (w.heap.size+1)),.map (J (w.heap.size+1+1)),.pointer (J ⟨vb,0,O⟩),.pointer (J ⟨vb,0,O⟩),.pointer (J ⟨vb,0,O⟩),.pointer (J ⟨vb,1,O⟩),.slice sp k cap,.int .i64 (k:L),.int .i64 (k:L),.bool I,Uf,Ug,Uh,Ui,Uj,u32,Uk,Ul,Um,Un,Uo,Up,Uq,Ur,Us,Ut,Uu,Uv,Uw,Ux,Uy,Uz,UA,UB,UC,UD,UE,UF,UG,UH,UI,UJ,UK,UL,UM,UN,undef,undef,undef,undef,undef,undef,undef,undef,undef,undef,undef,undef,undef,undef,undef,undef,undef,undef,undef,undef,undef,undef,undef,undef,undef,undef,undef,undef,undef,undef,undef,undef,undef,undef,undef,undef,undef,undef,undef],defers:=[]} wa:=by
 unfold aex Tryz.f42;dsimp only;have g1:(0:L)≤(m:L):=by omega
 have g2:(m:L)<(nd:L):=by omega
 obtain⟨Z1,l⟩:∃Z1:U→Prop,Z1=λb=>Z b∨(w.heap.size+3≤b∧b<wa.heap.size):=⟨_,rfl⟩;generalize K:wa.alloc (o9 #[.int .i64 fmt,.slice hp S hc] 48)=W9;have z9:W9.heap.size=wa.heap.size+1:=by subst K;simp
 have hB9:c7 w.heap.size w W9:=by subst K;exact hB.alloc (by omega) _
 have t0:W9.cell? ⟨wa.heap.size,0,O⟩=J (.int .i64 fmt):=by subst K;go_simp
 have t1:W9.cell? ⟨wa.heap.size,1,O⟩=J (.slice hp S hc):=by subst K;go_simp
 have hU:=vd.asW (w:=W9) (Z1:=Z1) G.out.1 hB9 (λb h=>by rw[l];exact .inl h) (λb h=>by
  rw[l]at h
  rcases h with h|h
  have:=G.out.1.dp b h;omega
  omega) (Vs.bA.mono (λb a=>⟨hB9.block b (G.out.1.dp b a),by rw[l];exact .inl a⟩) _ _ G.out.2.1) G.out.2.2.2.1
 go_wp2_with (go_at_call 82;refine hU.mono ?_;rintro e r ⟨uv,Z2,rfl,N,hDu⟩;obtain⟨up,ub,uo,un,uc,rfl,hun,UR,huc⟩:=as0 hDu);have T:∀b,b<W9.heap.size→r.heap[b]?=W9.heap[b]? :=N.1.block;clear t0 t1 c0 c1 c2 g1 g2 hU;go_loopw [74] (λi wr=>∃j:U,j≤un∧i=.int .i64 j∧∃(y:L)(qs:Q (M vd.tU))(B:Q ey)(D F:U)(P:U→Prop),wr.heap[wa.heap.size]?=J (.cells #[.int .i64 y,.slice B D F] 48 (0,0))∧bA wr P (vd.dN vd.tP qs) (.slice B D F)∧(∀b,Z2 b→P b)∧(∀b,P b→Z2 b∨W9.heap.size≤b)∧(∀b,P b→b<wr.heap.size)∧c7 wa.heap.size wa wr∧(∀b,b<r.heap.size→b≠wa.heap.size→wr.heap[b]?=r.heap[b]?)∧r.heap.size≤wr.heap.size∧jX (λp=>kp sg keep (m:L) k p) (λi=>((sg i).fr,(sg i).to)) tg ((us.getD []).drop j) (y,qs)=J res) (λi _=>un-(intOf i).toNat)
 case atStart=>
  refine⟨0,fV _,rfl,fmt,ps,hp,S,hc,Z2,?_,?_,λ_ h=>h,λ_ h=>.inl h,N.2.2.2,?_,λ_ _ _=>rfl,dR _,G.out.2.2.2.2⟩;rw[T _ (by omega),←K];exact Ob;exact Vs.bA.mono (λb a=>⟨by have:=G.out.1.dp b a;rw[T _ (by have:=hB9.size;omega)];exact hB9.block b this,N.2.1 b (by rw[l];exact .inl a)⟩) _ _ G.out.2.1;have b1:c7 wa.heap.size wa W9:=by subst K;exact(m9 _ wa).alloc (dR _) _
  exact b1.trans (N.1.mono (by omega))
 case' round=>
  obtain⟨j,hj,rfl,y,qs,B,D,F,P,e1,e2,e3,e4,e5,R,e7,e8,e9⟩:=hrel;by_cases hlt:j<un
  ·obtain⟨u,hu⟩:∃u,(us.getD [])[j]?=J u:=⟨_,eM (by omega)⟩;let⟨as6,aey⟩:=UR (by omega);subst as6;have as7:=N.2.2.2 ub aey;have as8:ub≠wa.heap.size:=by
    rcases N.2.2.1 ub aey with h|h
    rw[l]at h;rcases h with h|h
    have:=G.out.1.dp ub h;omega;omega;omega
   have rB:wr.cell? ⟨ub,uo+j,O⟩=J (.int .i64 u):=(by rw[Vs.cell_of_heap (e7 ub as7 as8)];exact huc j u hu);have huw:=H u (fK hu);have gg:wa.grownBy wr O:=⟨R.os,R.tape,R.output,R.size,λq hq _=>R.block q hq⟩;have ob:∀(u:aJ),u.ownBlock=O∨u.ownBlock≠O:=λu=>(by cases h:u.ownBlock<;>simp);let⟨⟨V8,h8⟩,V9,h9⟩:=HG.out;have L8:∀g,(V8 u).ownBlock=J g→g<wa.heap.size:=λg h=>((h8.rows u).lt g h).2;have L9:∀g,(V9 u).ownBlock=J g→g<wa.heap.size:=λg h=>((h9.rows u).lt g h).2;have h8:=h8.keep gg (by simp) (λq=>ob _);have h9:=h9.keep gg (by simp) (λq=>ob _);have hl8:=h8.look WH (E:=113) (T9 _) huw;have hl9:=h9.look WI (E:=132) (Ua _) huw;have R8:=h8.rows u;have R9:=h9.rows u;obtain⟨p8,n8,f8,hv8,V⟩:∃p n c,V8 u=.slice p n c∧n=(kp sg keep (m:L) k u).length:=by
    rcases R8.2 with⟨h,h0⟩|⟨g,cap,cur,h,_⟩
    grind;simp_all
   obtain⟨p9,n9,f9,hv9,hn9⟩:∃p n c,V9 u=.slice p n c∧n=(kp sg keep (m:L) k u).length:=by
    rcases R9.2 with⟨h,h0⟩|⟨g,cap,cur,h,_⟩
    grind;simp_all
   have cK:(us.getD []).drop j=u::(us.getD []).drop (j+1):=(by rw[List.drop_eq_getElem_cons (by omega)];grind);have s:=e9;rw[cK]at s;rw[hv8]at hl8 R8;rw[hv9]at hl9 R9;have t0:wr.cell? ⟨wa.heap.size,0,O⟩=J (.int .i64 y):=(by simp[er,e1]);have t1:wr.cell? ⟨wa.heap.size,1,O⟩=J (.slice B D F):=(by simp[er,e1]);have HV:Hid (∀q,wr.ownsRow (w.heap.size+3) 41 2 (V8 q) _ _):=h8.rows;by_cases hz:kp sg keep (m:L) k u=[];·have hn0:n8=0:=(by rw[V,hz];rfl);subst hn0;unfold jX at s;rw[aF hz]at s;clear h8 h9 HV H UR huc T gg V hn9;have IG:Hid (∀(b:U),b<r.heap.size→b≠wa.heap.size→wr.heap[b]?=r.heap[b]?):=e7;clear e7;go_wp2;exact⟨⟨j+1,hlt,by simp,y,qs,B,D,F,P,e1,e2,e3,e4,e5,R,IG.out,e8,s⟩,by simp[intOf];omega⟩
   ·have hpos:0<(kp sg keep (m:L) k u).length:=List.length_pos_iff.2 hz;have R8g:∃g,p8=J ⟨g,0,O⟩∧n8≤f8∧w.heap.size+3≤g∧g<wa.heap.size:=by
     have lt:=L8;rw[hv8]at lt;rcases R8.2 with⟨h,h0⟩|⟨g,cap,cur,h,a,_,hc,_⟩
     omega;cases h;exact⟨g,rfl,hc,a,lt g rfl⟩
    have R9g:∃g,p9=J ⟨g,0,O⟩∧n9≤f9∧w.heap.size+3≤g∧g<wa.heap.size:=by
     have lt:=L9;rw[hv9]at lt;rcases R9.2 with⟨h,h0⟩|⟨g,cap,cur,h,a,_,hc,_⟩
     omega;cases h;exact⟨g,rfl,hc,a,lt g rfl⟩
    obtain⟨g8,rfl,hf8,hg8,azX⟩:=R8g;obtain⟨g9,rfl,hf9,hg9,azZ⟩:=R9g;rw[←V]at R8;rw[←hn9]at R9;have hZ3:∀b,Z b→P b:=λb h=>e3 b (N.2.1 b (by rw[l];exact .inl h));have z:c7 w.heap.size w wr:=hB.trans (R.mono (by omega));have D8:=as1 (Z:=P) R8 V hf8 (e3 g8 (N.2.1 g8 (by grind)));have D9:=as2 (Z:=P) (tg:=tg) R9 hn9 hf9 (e3 g9 (N.2.1 g9 (by grind))) (λi hi=>by have hik:i<k:=(by have:=(List.mem_filter.1 hi).1;simpa using this);exact Vs.bA.mono (λb a=>⟨z.block b (G.out.1.dp b a),hZ3 b a⟩) _ _ (G.out.2.2.1 i hik));unfold jX at s;rw[aV hz]at s;obtain⟨A,qs',e',M6⟩:∃A qs' e',oP (y,qs) u (J ((kp sg keep (m:L) k u).map λi=>((sg i).fr,(sg i).to))) (J ((kp sg keep (m:L) k u).map tg))=J ((A,qs'),e'):=by
     cases hh:oP (y,qs) u (J ((kp sg keep (m:L) k u).map λi=>((sg i).fr,(sg i).to))) (J ((kp sg keep (m:L) k u).map tg))with
     |none=>rw[hh]at s;cases s
     |some x=>grind
    rw[M6]at s;have s:(if e'=0 then jX (λp=>kp sg keep (m:L) k p) (λi=>((sg i).fr,(sg i).to)) tg ((us.getD []).drop (j+1)) (A,qs')else J ((0,O),e'))=J res:=s;have hR:=vd.asX G.out.1 z hZ3 e5 e2 D8 D9 M6;have hz8:((n8:L)==0)=I:=(by grind);have IG:Hid (∀(b:U),b<r.heap.size→b≠wa.heap.size→wr.heap[b]?=r.heap[b]?):=e7;clear e7 h8 h9 HV H UR huc T gg V hn9 R8 R9 D8 D9 L8 L9;have f:∀(d jA:bZ)(o:Obj),c7 wr.heap.size wr d→d.alloc o=jA→jA.heap[w.heap.size]?=J (.cells #[.int .i64 0,.slice O 0 0] 48 (0,0))∧jA.heap[wa.heap.size]?=J (.cells #[.int .i64 y,.slice B D F] 48 (0,0))∧jA.heap.size=d.heap.size+1∧wr.heap.size≤d.heap.size:=(by intro d jA o a h;subst h;have:=a.size;have:=R.size;have Xo:=(pR.1 e1).1;refine⟨?_,?_,by simp,by omega⟩;rw[HM _ _ _ (by omega),a.block _ (by omega),R.block _ (by omega)];exact Gv;rw[HM _ _ _ (by omega),a.block _ (by omega)];exact e1);have atf:Hid _:=f;clear f;go_wp2_with fail;go_at_call 83;refine hR.mono ?_;rintro e d ⟨oU,Z4,rfl,t,hD4⟩;obtain⟨p',n',c',rfl⟩:=aev hD4;generalize f:d.alloc (o9 #[.int .i64 A,.slice p' n' c'] 48)=jA;let⟨X,i2,i3,i4⟩:=atf.out d jA _ t.1 f;have j0:jA.cell? ⟨w.heap.size,0,O⟩=J (.int .i64 0):=(by simp[er,X]);have j1:jA.cell? ⟨w.heap.size,1,O⟩=J (.slice O 0 0):=(by simp[er,X]);have j2:jA.frozen? ⟨w.heap.size,0,O⟩=I:=(by simp[na,X]);have j3:jA.frozen? ⟨w.heap.size,1,O⟩=I:=(by simp[na,X]);have j4:jA.cell? ⟨wa.heap.size,0,O⟩=J (.int .i64 y):=(by simp[er,i2]);have j5:jA.cell? ⟨wa.heap.size,1,O⟩=J (.slice B D F):=(by simp[er,i2]);have j6:jA.frozen? ⟨wa.heap.size,0,O⟩=I:=(by simp[na,i2]);have j7:jA.frozen? ⟨wa.heap.size,1,O⟩=I:=(by simp[na,i2]);have j10:jA.heap[d.heap.size]?=J (.cells #[.int .i64 A,.slice p' n' c'] 48 (0,0)):=(by rw[←f];exact Ob);have j8:jA.cell? ⟨d.heap.size,0,O⟩=J (.int .i64 A):=(by simp[er,j10]);have j9:jA.cell? ⟨d.heap.size,1,O⟩=J (.slice p' n' c'):=(by simp[er,j10]);go_wp2;·have hne:e'≠0:=(by simp_all);rw[aV hne]at s;cases s;have Ao:c7 w.heap.size w jA:=(by rw[←f];exact(z.trans (t.1.mono (by have:=z.size;omega))).alloc (by have:=z.size;omega) _);let⟨y1,y2⟩:=Vs.mB (o:=0) (v:=.int .i64 0) X;let⟨y3,y4⟩:=Vs.mB (o:=1) (v:=.slice O 0 0) y1;have hbf:c7 w.heap.size w ((jA.setCell ⟨w.heap.size,0,O⟩ (.int .i64 0)).setCell ⟨w.heap.size,1,O⟩ (.slice O 0 0)):=(Ao.setCell (dR _) _).setCell (dR _) _;clear j0 j1 j2 j3;generalize (jA.setCell ⟨w.heap.size,0,O⟩ (.int .i64 0)).setCell ⟨w.heap.size,1,O⟩ (.slice O 0 0)=Wf at *;have k0:Wf.cell? ⟨w.heap.size,0,O⟩=J (.int .i64 0):=(by simp[er,y3]);have k1:Wf.cell? ⟨w.heap.size,1,O⟩=J (.slice O 0 0):=(by simp[er,y3]);refine bodyPost_ret (v:=.tuple #[.agg #[.int .i64 0,.slice O 0 0],.int .i64 e']) (by simp[results,Tryz.results42,go_sem,k0,k1]) rfl ?_;exact⟨.slice O 0 0,Z,rfl,⟨hbf,λ_ h=>h,λ_ h=>.inl h,λb h=>pW (G.out.1.dp b h) hbf.size⟩,rfl⟩
    have hne:e'=0:=(by grind);rw[aF hne]at s;let⟨y1,y2⟩:=Vs.mB (o:=0) (v:=.int .i64 A) i2;let⟨y3,y4⟩:=Vs.mB (o:=1) (v:=.slice p' n' c') y1;have hz3:=z.size;have Xo:=(pR.1 e1).1;have z4n:∀b,Z4 b→b≠wa.heap.size:=by
     intro b a UO;subst UO;rcases t.2.2.1 _ a with h|h
     rcases e4 _ h with h|h
     rcases N.2.2.1 _ h with h|h
     rw[l]at h;rcases h with h|h
     have:=G.out.1.dp _ h;omega;omega;omega;omega;omega
    have Y:∀b,b<d.heap.size→jA.heap[b]?=d.heap[b]? :=λb a=>(by grind [HM]);refine⟨⟨j+1,hlt,rfl,A,qs',p',n',c',Z4,by simpa using y3,?_,λb h=>t.2.1 b (e3 b h),λb h=>?_,λb h=>?_,?_,λb h1 h2=>?_,?_,s⟩,by simp[intOf];omega⟩;exact Vs.bA.mono (λb a=>⟨by rw[y4 b (z4n b a),y2 b (z4n b a)];exact Y b (t.2.2.2 b a),a⟩) _ _ hD4;rcases t.2.2.1 b h with h|h
    exact e4 b h;right;omega;rw[Oa,Oa];have:=t.2.2.2 b h;omega;have b1:c7 wa.heap.size wa jA:=(by rw[←f];exact(R.trans (t.1.mono (by omega))).alloc (by omega) _);exact(b1.setCell (dR _) _).setCell (dR _) _;have a:=IG.out b h1 h2;rw[y4 b h2,y2 b h2,Y b (by omega),t.1.block b (by omega)];exact a;rw[Oa,Oa];omega
  ·have WV:j=un:=(by omega);subst WV;have s:=e9;rw[List.drop_eq_nil_of_le (by omega)]at s;unfold jX at s;cases s;have X:wr.heap[w.heap.size]?=J (.cells #[.int .i64 0,.slice O 0 0] 48 (0,0)):=(by rw[R.block _ (by omega)];exact Gv);have t0:wr.cell? ⟨wa.heap.size,0,O⟩=J (.int .i64 y):=(by simp[er,e1]);have t1:wr.cell? ⟨wa.heap.size,1,O⟩=J (.slice B D F):=(by simp[er,e1]);have j0:wr.cell? ⟨w.heap.size,0,O⟩=J (.int .i64 0):=(by simp[er,X]);have j1:wr.cell? ⟨w.heap.size,1,O⟩=J (.slice O 0 0):=(by simp[er,X]);have j2:wr.frozen? ⟨w.heap.size,0,O⟩=I:=(by simp[na,X]);have j3:wr.frozen? ⟨w.heap.size,1,O⟩=I:=(by simp[na,X]);let⟨y1,y2⟩:=Vs.mB (o:=0) (v:=.int .i64 y) X;let⟨y3,y4⟩:=Vs.mB (o:=1) (v:=.slice B D F) y1;have z:c7 w.heap.size w wr:=hB.trans (R.mono (by omega));have hbf:c7 w.heap.size w ((wr.setCell ⟨w.heap.size,0,O⟩ (.int .i64 y)).setCell ⟨w.heap.size,1,O⟩ (.slice B D F)):=(z.setCell (dR _) _).setCell (dR _) _;have z3n:∀b,P b→b≠w.heap.size:=by
    intro b a UO;subst UO;rcases e4 _ a with h|h
    rcases N.2.2.1 _ h with h|h
    rw[l]at h;rcases h with h|h
    have:=G.out.1.dp _ h;omega;omega;omega;omega
   have D9:=Vs.bA.mono (w':=(wr.setCell ⟨w.heap.size,0,O⟩ (.int .i64 y)).setCell ⟨w.heap.size,1,O⟩ (.slice B D F)) (Z':=P) (λb a=>⟨by grind,a⟩) _ _ e2;have zsz:((wr.setCell ⟨w.heap.size,0,O⟩ (.int .i64 y)).setCell ⟨w.heap.size,1,O⟩ (.slice B D F)).heap.size=wr.heap.size:=(by simp_all);have IG:Hid (∀(b:U),b<r.heap.size→b≠wa.heap.size→wr.heap[b]?=r.heap[b]?):=e7;clear e7 H UR huc T e9;go_wp2;generalize (wr.setCell ⟨w.heap.size,0,O⟩ (.int .i64 y)).setCell ⟨w.heap.size,1,O⟩ (.slice B D F)=Wf at *;have k0:Wf.cell? ⟨w.heap.size,0,O⟩=J (.int .i64 y):=(by simp[er,y3]);have k1:Wf.cell? ⟨w.heap.size,1,O⟩=J (.slice B D F):=(by simp[er,y3]);refine bodyPost_ret (v:=.tuple #[.agg #[.int .i64 y,.slice B D F],.int .i64 0]) (by simp[results,Tryz.results42,go_sem,k0,k1]) rfl ?_;refine⟨.slice B D F,rfl,P,⟨hbf,λb h=>e3 b (N.2.1 b (by rw[l];exact .inl h)),λb h=>?_,λb h=>by rw[zsz];exact e5 b h⟩,D9⟩;rcases e4 b h with h|h
   rcases N.2.2.1 b h with h|h
   rw[l]at h;rcases h with h|h
   exact .inl h;right;omega;right;omega;right;omega
end
section
open Go Go.RowKit Go.Proofs Go.ChangeMaps Go.MapKept
open Go.Vs (aY cY dm bA SV C D aC cT)
open Go.Fd (nH oP jX)
attribute [-go_sem] Builtin.append_
set_option maxHeartbeats 8000000 in
set_option maxRecDepth 1000000 in
def aeH{vals:bW aJ}{β:aC→Q U}{ω:U→Q cT}{Z:U→Prop}{args:M SV}{aI:M (M C)}(vb D H n cap db dd nd T m:U)(F:dT)(cp:bW aJ)(keep:U→az)(sp:Q ey)(num fmt:L)(hp:Q ey)(V hc:U)(ps:Q (M vd.tU))(us:Q (M L))(res:(L×Q (M vd.tU))×L)(sg:U→Sg)(tg:U→Q (M (L×M ao×L)))(w:bZ) (z:aY (cY be 0 w vals β ω Z) β ω Z (dm args aI) {tmps:=#[],defers:=[]} w)(hvb:vb<w.heap.size)(O8:0<n→D<w.heap.size)(hdb:db<w.heap.size) (X:w.cell? ⟨vb,0,O⟩=J (.slice (J ⟨db,dd,O⟩) nd T))(ath:num=(m:L))(hm:m<nd) (Y:w.cell? ⟨db,dd+m*2,O⟩=J (.int .i64 fmt))(X7:w.cell? ⟨db,dd+m*2+1,O⟩=J (.slice hp V hc))(hps:bA w Z (vd.dN vd.tP ps) (.slice hp V hc)) (hc1:w.cell? ⟨vb,1,O⟩=J (.slice sp n cap))(hsp:Hid (0<n→sp=J ⟨D,H,O⟩))(hn:n≤512)(hwf:∀i,i<n→(rb .i64 (sg i).part).wf=true) (hF:F=43∧cp=#[]∨F=46∧∃a,cp=#[.pointer a])(hcall:∀k,k<n→(sg k).doc=num→∀wa,c7 w.heap.size w wa→ez be F (#[.int .i64 (k:L),.agg #[.int .i64 (sg k).id,.int .i64 num,.int .i64 (sg k).part,.int .i64 (sg k).fr,.int .i64 (sg k).to,.int .i64 (sg k).state,.slice (sg k).tp (sg k).tn (sg k).tc,.string (sg k).oV,.int .i64 (sg k).src,.bool (sg k).fl]]++cp) wa λe w'=>e=.returned (.bool (keep k))∧c7 wa.heap.size wa w') (hs:∀i,i<n→∀j v,(sg i).cells[j]?=J v→w.cell? ⟨D,H+i*10+j,O⟩=J v)(htg:∀i,i<n→bA w Z (vd.dN vd.tI (tg i)) (sg i).tgt) (azV:(us.getD []).length≤4294967296)(husw:∀x∈us.getD [],(rb .i64 x).wf=true)(Py:nH (fmt,ps)=J us)(A:jX (λp=>kp sg keep num n p) (λi=>((sg i).fr,(sg i).to)) tg (us.getD []) (fmt,ps)=J res):ez be 42 #[.pointer (J ⟨vb,0,O⟩),.int .i64 num,.func (.func F) #[] cp] w λe w'=>∃oU Z2,e=.returned (.tuple #[.agg #[.int .i64 res.1.1,oU],.int .i64 res.2])∧vd.Gu w w' Z Z2∧bA w' Z2 (vd.dN vd.tP res.1.2) oU:=by
 rcases hF with⟨rfl,rfl⟩|⟨rfl,a,rfl⟩
 all_goals
  subst ath
  have hmm:=@run_makeMap be
  have aeI:(((w.alloc (o9 #[nS a7 0,sD O 0 0] 48)).alloc (Cw #[] 0)).alloc (Cw #[] 0)).cell? ⟨vb,1,O⟩=J (.slice sp n cap):=by rw[Oc _ _ _ (by simp;omega),Oc _ _ _ (by simp;omega),Oc _ _ _ hvb];exact hc1
  go_enter Tryz.func42,Tryz.ntmps42
  go_wp2
  generalize hW:((w.alloc (o9 #[nS a7 0,sD O 0 0] 48)).alloc (Cw #[] 0)).alloc (Cw #[] 0)=W
  have UP:c7 w.heap.size w W:=by rw[←hW];exact(((m9 _ w).alloc (dR _) _).alloc (by simp) _).alloc (by simp;omega) _
  have zW:W.heap.size=w.heap.size+3:=by rw[←hW];simp
  have UQ:GK W w.heap.size sg keep (m:L) 0:=by have e0:∀p,kp sg keep (m:L) 0 p=[]:=λp=>rfl;have a8:=(GM.made (w.alloc (o9 #[nS a7 0,sD O 0 0] 48)) 41 2 (w.heap.size+3) (by simp)).keep (HN _ (Cw #[] 0) O) (by simp) (λ_=>.inl rfl);have a9:=GM.made ((w.alloc (o9 #[nS a7 0,sD O 0 0] 48)).alloc (Cw #[] 0)) 42 1 (w.heap.size+3) (by simp);rw[hW]at a8 a9;have z1:(w.alloc (o9 #[nS a7 0,sD O 0 0] 48)).heap.size=w.heap.size+1:=(by simp);have z2:((w.alloc (o9 #[nS a7 0,sD O 0 0] 48)).alloc (Cw #[] 0)).heap.size=w.heap.size+2:=(by simp);rw[z1]at a8;rw[z2]at a9;exact⟨⟨_,a8⟩,_,a9⟩
  have HH:Hid (aY (cY be 0 w vals β ω Z) β ω Z (dm args aI) {tmps:=#[],defers:=[]} w∧w.cell? ⟨vb,0,O⟩=J (.slice (J ⟨db,dd,O⟩) nd T)∧w.cell? ⟨db,dd+m*2,O⟩=J (.int .i64 fmt)∧w.cell? ⟨db,dd+m*2+1,O⟩=J (.slice hp V hc)∧bA w Z (vd.dN vd.tP ps) (.slice hp V hc)∧(∀i,i<n→bA w Z (vd.dN vd.tI (tg i)) (sg i).tgt)∧nH (fmt,ps)=J us∧jX (λp=>kp sg keep (m:L) n p) (λi=>((sg i).fr,(sg i).to)) tg (us.getD []) (fmt,ps)=J res):=⟨z,X,Y,X7,hps,htg,Py,A⟩
  clear hmm hc1 aeI z X Y X7 hps htg Py A
  go_loopw [25] (λi wr=>∃k:U,k≤n∧i=.int .i64 k∧GK wr w.heap.size sg keep (m:L) k∧c7 w.heap.size w wr∧w.heap.size+3≤wr.heap.size∧wr.heap[w.heap.size]?=W.heap[w.heap.size]?) (λi _=>n-(intOf i).toNat)
  case atStart=>exact⟨0,fV _,rfl,UQ,UP,by omega,rfl⟩
  case' round=>
   obtain⟨k,hk,rfl,hG,hB,hsz,hR⟩:=hrel
   by_cases N:k<n
   ·have atj:=hsp.out (by omega);subst atj;have c:∀j v,(sg k).cells[j]?=J v→wr.cell? ⟨D,H+k*10+j,O⟩=J v:=λj v h=>(by rw[hB.cell (O8 (by omega))];exact hs k N j v h);have q0:wr.cell? ⟨D,H+k*10,O⟩=J (.int .i64 (sg k).id):=c 0 _ rfl;have q1:wr.cell? ⟨D,H+k*10+1,O⟩=J (.int .i64 (sg k).doc):=c 1 _ rfl;have q2:wr.cell? ⟨D,H+k*10+2,O⟩=J (.int .i64 (sg k).part):=c 2 _ rfl;have q3:wr.cell? ⟨D,H+k*10+3,O⟩=J (.int .i64 (sg k).fr):=c 3 _ rfl;have q4:wr.cell? ⟨D,H+k*10+4,O⟩=J (.int .i64 (sg k).to):=c 4 _ rfl;have q5:wr.cell? ⟨D,H+k*10+5,O⟩=J (.int .i64 (sg k).state):=c 5 _ rfl;have q6:wr.cell? ⟨D,H+k*10+6,O⟩=J (.slice (sg k).tp (sg k).tn (sg k).tc):=c 6 _ rfl;have q7:wr.cell? ⟨D,H+k*10+7,O⟩=J (.string (sg k).oV):=c 7 _ rfl;have q8:wr.cell? ⟨D,H+k*10+8,O⟩=J (.int .i64 (sg k).src):=c 8 _ rfl;have q9:wr.cell? ⟨D,H+k*10+9,O⟩=J (.bool (sg k).fl):=c 9 _ rfl;have HG:Hid (GK wr w.heap.size sg keep (m:L) k):=hG;clear c hs UQ UP hG hW husw azV hdb HH;have R:=hwf k N;have xF:=hcall k N;have hba:∀o,c7 w.heap.size w (wr.alloc o):=λo=>hB.alloc (by omega) _;generalize hkk:keep k=kk at *;generalize hsg:sg k=S at *;clear hwf hcall;have HCL:Hid _:=xF;clear xF;go_wp2_with ((first|go_at_call 43|go_at_call 46);refine(HCL.out (by first|assumption|rfl) _ (hba _)).mono ?_;rintro e r ⟨rfl,f⟩)
    ·have hkt:kk=true:=(by assumption);have hst:keep k=true:=hkk.trans hkt;generalize t:wr.alloc (o9 #[.int .i64 S.id,.int .i64 (m:L),.int .i64 S.part,.int .i64 S.fr,.int .i64 S.to,.int .i64 S.state,.slice S.tp S.tn S.tc,.string S.oV,.int .i64 S.src,.bool S.fl] 44)=W1 at f;have z1:W1.heap.size=wr.heap.size+1:=(by subst t;simp);have z2:wr.heap.size+1≤r.heap.size:=(by have:=f.size;omega);have b2:r.heap[wr.heap.size]?=W1.heap[wr.heap.size]? :=f.block _ (by omega);have r2:r.cell? ⟨wr.heap.size,2,O⟩=J (.int .i64 S.part):=(by rw[Vs.cell_of_heap b2];subst t;go_simp);have r3:r.cell? ⟨wr.heap.size,3,O⟩=J (.int .i64 S.fr):=(by rw[Vs.cell_of_heap b2];subst t;go_simp);have r4:r.cell? ⟨wr.heap.size,4,O⟩=J (.int .i64 S.to):=(by rw[Vs.cell_of_heap b2];subst t;go_simp);have r6:r.cell? ⟨wr.heap.size,6,O⟩=J (.slice S.tp S.tn S.tc):=(by rw[Vs.cell_of_heap b2];subst t;go_simp);obtain⟨H2,hH2⟩:∃H2,r.heap.size=H2:=⟨_,rfl⟩;have g1:wr.grownBy W1 O:=(by rw[←t];exact HN _ _ _);have g2:wr.grownBy r O:=g1.trans ⟨f.os,f.tape,f.output,f.size,λb hb _=>f.block b hb⟩;let⟨⟨V8,l⟩,V9,d⟩:=HG.out;have y:∀q,(kp sg keep (m:L) k q).length≤512:=λq=>(by have:(kp sg keep (m:L) k q).length≤(iz k).length:=List.length_filter_le _ _;simp at this;omega);have ob:∀(u:aJ),u.ownBlock=O∨u.ownBlock≠O:=λu=>(by cases h:u.ownBlock<;>simp);have lt8:∀q g,(V8 q).ownBlock=J g→g<wr.heap.size:=λq g h=>((l.rows q).lt g h).2;have lt9:∀q g,(V9 q).ownBlock=J g→g<wr.heap.size:=λq g h=>((d.rows q).lt g h).2;have gd:r.grownBy r.drew O:=⟨rfl,rfl,rfl,dR _,λ_ _ _=>rfl⟩;have l:=l.keep (g2.trans gd) (by simp) (λq=>ob _);have d:=d.keep (g2.trans gd) (by simp) (λq=>ob _);let⟨i8,hi8,hz8,hs8,hb8⟩:=info_parts asY;have atq:=l.look WH (E:=113) (T9 _) R;generalize Gw:r.drew.alloc (o9 #[.int .i64 S.fr,.int .i64 S.to] 41)=W3;have g3:r.drew.grownBy W3 O:=(by subst Gw;exact HN _ _ _);have z3:W3.heap.size=H2+1:=(by subst Gw;simp;omega);have n0:W3.cell? ⟨r.heap.size,0,O⟩=J (.int .i64 S.fr):=(by subst Gw;go_simp);have n1:W3.cell? ⟨r.heap.size,1,O⟩=J (.int .i64 S.to):=(by subst Gw;go_simp);have l:=l.keep g3 (by simp) (λq=>ob _);have d:=d.keep g3 (by simp) (λq=>ob _);have atr:=l.look WH (E:=113) (T9 _) R
     let⟨v8,W4,B,ho8,g4,_,att⟩:=run_append_own_at (P:=be) W3 (w.heap.size+3) 113 113 41 i8 _ 2 16 Tryz.underlying113 hi8 hz8 hs8 hb8 rfl (by decide) (V8 S.part) _ _ (l.rows S.part) ⟨r.heap.size,0,O⟩ 1 1 [.int .i64 S.fr,.int .i64 S.to] rfl
      (λj u hj=>by
        match j,hj with
        |0,hj=>cases hj;exact n0
        |1,hj=>cases hj;exact n1) (by simp[Value.oneCell']) (by have:=y S.part;unfold maxLen;omega) (by have:=y S.part;omega) (by omega)
     let⟨G,UR,g5,aeK⟩:=l.put WH (by unfold maxLen;omega) R g4 ho8 (att.imp id λh=>⟨_,h,dR _⟩);have s2:W3.cell? ⟨wr.heap.size,2,O⟩=J (.int .i64 S.part):=(by subst Gw;rw[Oc _ _ _ (show wr.heap.size<r.drew.heap.size from(by show wr.heap.size<r.heap.size;omega))];exact r2);have nK:W4.heap[wr.heap.size]?=W3.heap[wr.heap.size]? :=g4.block _ (by omega) (λh=>by have:=lt8 S.part _ h.symm;omega);have t2:W4.cell? ⟨wr.heap.size,2,O⟩=J (.int .i64 S.part):=(by rw[Vs.cell_of_heap nK];exact s2);have US:=d;have atu:=l.rows S.part;have UT:∀g,(V8 S.part).ownBlock=J g→w.heap.size+3≤g:=λg h=>((l.rows S.part).lt g h).1;rw[hH2]at B;clear l d HG;have z2':r.drew.heap.size=r.heap.size:=rfl;go_region;have d89:∀q,(V9 q).ownBlock=O∨(V9 q).ownBlock≠(V8 S.part).ownBlock:=λq=>aet (by decide) (US.rows q) atu;have d:=(US.keep g4 (λh=>by have:=lt8 S.part;have:=UT _ h.symm;omega) d89).keep g5 (by simp) (λq=>by
      cases h:(V9 q).ownBlock with|none=>exact .inl rfl|some g=>exact .inr λhh=>by cases hh;have:=((US.rows q).lt _ h).1;omega)
     have b5:G.heap[wr.heap.size]?=r.heap[wr.heap.size]? :=(by rw[g5.block _ (by have:=g4.size;omega) (by simp;omega),nK,g3.block _ (by show wr.heap.size<r.heap.size;omega) (by simp)];rfl);have u2:G.cell? ⟨wr.heap.size,2,O⟩=J (.int .i64 S.part):=(by rw[Vs.cell_of_heap b5];exact r2);have u6:G.cell? ⟨wr.heap.size,6,O⟩=J (.slice S.tp S.tn S.tc):=(by rw[Vs.cell_of_heap b5];exact r6);have z5:wr.heap.size<G.heap.size:=(by have:=g4.size;have:=g5.size;omega);have s:=aeK;clear atq atr B UR r2 r3 r4 r6 s2 t2 n0 n1 aeK;go_wp2;have M9:G.grownBy G.drew O:=⟨rfl,rfl,rfl,dR _,λ_ _ _=>rfl⟩;have d:=d.keep M9 (by simp) (λq=>ob _);have s:=s.keep M9 (by simp) (λq=>ob _);let⟨i9,hi9,hz9,Pk,hb9⟩:=info_parts asZ;have aty:=d.look WI (E:=132) (Ua _) R;obtain⟨H5,hH5⟩:∃H5,G.heap.size=H5:=⟨_,rfl⟩;generalize Na:G.drew.alloc (o9 #[.slice S.tp S.tn S.tc] 42)=W6;have g6:G.drew.grownBy W6 O:=(by subst Na;exact HN _ _ _);have z6:W6.heap.size=H5+1:=(by subst Na;simp;omega);have m0:W6.cell? ⟨G.heap.size,0,O⟩=J (.slice S.tp S.tn S.tc):=(by subst Na;go_simp);have d:=d.keep g6 (by simp) (λq=>ob _);have s:=s.keep g6 (by simp) (λq=>ob _);have atA:=d.look WI (E:=132) (Ua _) R
     let⟨v9,W7,B,ho9,g7,_,atC⟩:=run_append_own_at (P:=be) W6 (w.heap.size+3) 132 132 42 i9 _ 1 24 Tryz.underlying132 hi9 hz9 Pk hb9 rfl (by decide) (V9 S.part) _ _ (d.rows S.part) ⟨G.heap.size,0,O⟩ 1 1 [.slice S.tp S.tn S.tc] rfl
      (λj u hj=>by
        match j,hj with|0,hj=>cases hj;exact m0) (by simp[Value.oneCell']) (by have:=y S.part;unfold maxLen;omega) (by have:=y S.part;omega) (by omega)
     let⟨W8,UR,g8,aeL⟩:=d.put WI (by unfold maxLen;omega) R g7 ho9 (atC.imp id λh=>⟨_,h,dR _⟩);have s2:W6.cell? ⟨wr.heap.size,2,O⟩=J (.int .i64 S.part):=(by subst Na;rw[Oc _ _ _ (show wr.heap.size<G.drew.heap.size from z5)];exact u2);have b7:W7.heap[wr.heap.size]?=W6.heap[wr.heap.size]? :=g7.block _ (by omega) (λh=>by have:=lt9 S.part _ h.symm;omega);have t2:W7.cell? ⟨wr.heap.size,2,O⟩=J (.int .i64 S.part):=(by rw[Vs.cell_of_heap b7];exact s2);have atD:=aeL;have aeM:=d.rows S.part;rw[hH5]at B;clear d aeL;go_region;have az3:wr.grownBy W8 O→True:=λ_=>trivial;clear aty atA B UR s2 t2 u2 u6 m0;go_wp2;go_roundw
     case rel=>
      have UU:(sg k).doc=(m:L):=(by rw[hsg];assumption);have hpt:(sg k).part=S.part:=(by rw[hsg]);have eN:(λp=>(kp sg keep (m:L) (k+1) p).length)=λj=>if j=S.part then(kp sg keep (m:L) k S.part).length+1 else(kp sg keep (m:L) k j).length:=funext λj=>(by rw[Ub UU hst,hpt];split<;>simp_all);have eX8:(λp=>(kp sg keep (m:L) (k+1) p).flatMap λi=>[nS .i64 (sg i).fr,.int .i64 (sg i).to])=λj=>if j=S.part then((kp sg keep (m:L) k S.part).flatMap λi=>[nS .i64 (sg i).fr,.int .i64 (sg i).to])++[.int .i64 S.fr,.int .i64 S.to]else(kp sg keep (m:L) k j).flatMap λi=>[nS .i64 (sg i).fr,.int .i64 (sg i).to]:=funext λj=>(by rw[Ub UU hst,hpt];split;rename_i h;rw[h,xb];simp[hsg];rfl);have eX9:(λp=>(kp sg keep (m:L) (k+1) p).map λi=>(sg i).tgt)=λj=>if j=S.part then((kp sg keep (m:L) k S.part).map λi=>(sg i).tgt)++[.slice S.tp S.tn S.tc]else(kp sg keep (m:L) k j).map λi=>(sg i).tgt:=funext λj=>(by rw[Ub UU hst,hpt];split;rename_i h;rw[h,mj];simp[hsg,Sg.tgt];rfl);have UV:∀g,(V9 S.part).ownBlock=J g→w.heap.size+3≤g:=λg h=>(aeM.lt g h).1;have atG:=(s.keep g7 (λh=>by have:=UV _ h.symm;omega) (λq=>aet (by decide) (s.rows q) aeM)).keep g8 (by simp) (λq=>by
       cases h:((λj=>if j=S.part then v8 else V8 j) q).ownBlock with|none=>exact .inl rfl|some g=>exact .inr λhh=>by cases hh;have:=((s.rows q).lt _ h).1;omega)
      have x2:=g2.size;have xd:r.drew.heap.size=r.heap.size:=rfl;have x3:=g3.size;have x4:=g4.size;have x5:=g5.size;have xd5:G.drew.heap.size=G.heap.size:=rfl;have x6:=g6.size;have x7:=g7.size;have x8:=g8.size;have hBl:=((((((((hB.grown g2 (by omega) (by simp)).grown gd (by omega) (by simp)).grown g3 (by omega) (by simp)).grown g4 (by omega) (λq h=>by have:=UT q h;omega)).grown g5 (by omega) (λq h=>by cases h;omega)).grown M9 (by omega) (by simp)).grown g6 (by omega) (by simp)).grown g7 (by omega) (λq h=>by have:=UV q h;omega)).grown g8 (by omega) (λq h=>by cases h;omega);refine⟨k+1,N,by simp,⟨⟨_,by rw[eN,eX8];exact atG⟩,_,by rw[eN,eX9];exact atD⟩,hBl,by omega,?_⟩;rw[g8.block _ (by omega) (by simp),g7.block _ (by omega) (λh=>by have:=UV _ h.symm;omega),g6.block _ (by omega) (by simp),M9.block _ (by omega) (by simp),g5.block _ (by omega) (by simp),g4.block _ (by omega) (λh=>by have:=UT _ h.symm;omega),g3.block _ (by omega) (by simp),gd.block _ (by omega) (by simp),g2.block _ (by omega) (by simp)];exact hR
     case measure=>simp[intOf];omega
    have hkt:kk=I:=(by assumption);have hst:keep k=I:=hkk.trans hkt;generalize t:wr.alloc (o9 #[.int .i64 S.id,.int .i64 (m:L),.int .i64 S.part,.int .i64 S.fr,.int .i64 S.to,.int .i64 S.state,.slice S.tp S.tn S.tc,.string S.oV,.int .i64 S.src,.bool S.fl] 44)=W1 at f;have z1:W1.heap.size=wr.heap.size+1:=(by subst t;simp);have z2:=f.size;have g1:wr.grownBy W1 O:=(by rw[←t];exact HN _ _ _);have g2:wr.grownBy r O:=g1.trans ⟨f.os,f.tape,f.output,f.size,λb hb _=>f.block b hb⟩;have eK:∀p,kp sg keep (m:L) (k+1) p=kp sg keep (m:L) k p:=λp=>aeu (.inr hst) p;refine⟨⟨k+1,N,by simp,?_,hB.grown g2 (by omega) (by simp),by omega,?_⟩,by simp[intOf];omega⟩;exact GK.keep HG.out g2 eK;rw[g2.block _ (by omega) (by simp)];exact hR;have hd:(sg k).doc≠(m:L):=(by rw[hsg];assumption);have eK:∀p,kp sg keep (m:L) (k+1) p=kp sg keep (m:L) k p:=λp=>aeu (.inl hd) p;refine⟨⟨k+1,N,by simp,?_,hB.alloc (by omega) _,by simp;omega,?_⟩,by simp[intOf];omega⟩;exact GK.keep HG.out (HN _ _ O) eK;rw[HM _ _ _ (by omega)];exact hR
   ·have hkn:k=n:=(by omega);subst hkn;let⟨z,X,Y,X7,hps,htg,Py,A⟩:=HH.out;have c0:=(hB.cell (p:=⟨vb,0,O⟩) hvb).trans X;have c1:=(hB.cell (p:=⟨db,dd+m*2,O⟩) hdb).trans Y;have c2:=(hB.cell (p:=⟨db,dd+m*2+1,O⟩) hdb).trans X7;have Gv:wr.heap[w.heap.size]?=J (.cells #[.int .i64 0,.slice O 0 0] 48 (0,0)):=(by rw[hR,←hW,HM _ _ _ (by simp;omega),HM _ _ _ (by simp)];exact Ob);have fin:=λ(cl Ud Ue Uf Ug Uh Ui Uj u32 Uk Ul Um Un Uo Up Uq Ur Us Ut Uu Uv Uw Ux Uy Uz UA UB UC UD UE UF UG UH UI UJ UK UL UM UN:aJ)=>as3 (vals:=vals) (β:=β) (ω:=ω) (Z:=Z) (args:=args) (aI:=aI) vb cap db dd nd T m k sp cl keep fmt hp V hc ps us res sg tg w wr hm azV husw c0 c1 c2 ⟨z,hps,htg,Py,A⟩ hG hB hsz Gv Ud Ue Uf Ug Uh Ui Uj u32 Uk Ul Um Un Uo Up Uq Ur Us Ut Uu Uv Uw Ux Uy Uz UA UB UC UD UE UF UG UH UI UJ UK UL UM UN;clear HH z X Y X7 hps htg Py A hs hwf UQ UP hW hG azV husw c0 c1 c2 Gv hR hm;rename_i Q' K aeN;have HF:Hid _:=fin;have HC:Hid _:=aeN;clear fin aeN;go_wp2;exact HC.out _ _ (HF.out _ _ _ _ _ _ _ _ _ _ _ _ _ _ _ _ _ _ _ _ _ _ _ _ _ _ _ _ _ _ _ _ _ _ _ _ _ _ _)
end
open Go Go.RowKit Go.Proofs
def call43(k b c d f g st src:L)(tp:Q ey)(tn tc:U)(oV:nT)(fl:az)(a:bZ):ez be 43 (#[.int .i64 k,.agg #[.int .i64 b,.int .i64 c,.int .i64 d,.int .i64 f,.int .i64 g,.int .i64 st,.slice tp tn tc,.string oV,.int .i64 src,.bool fl]]++ #[]) a λe w'=>e=.returned (.bool (decide (st=3)))∧c7 a.heap.size a w':=by show ez be 43 #[.int .i64 k,.agg #[.int .i64 b,.int .i64 c,.int .i64 d,.int .i64 f,.int .i64 g,.int .i64 st,.slice tp tn tc,.string oV,.int .i64 src,.bool fl]] a _;go_enter Tryz.func43,Tryz.ntmps43;go_wp2;exact bodyPost_ret (v:=.bool (st==3)) (by simp[results,Tryz.results43,go_sem]) rfl ⟨rfl,adM (m9 _ _) (dR _) _⟩
end
end Go.Proofs.YtgbmhohlapmgbaaGreatDoor.vx
namespace Go.Proofs.YtgbmhohlapmgbaaGreatDoor.vd
noncomputable section
open Go Go.Vs Go.Ve Go.Fd Go.Proofs.Tryz
abbrev mg:Ty:=.bG (.int .i64) (.sl tP)
abbrev mQ:Ty:=.bG (.int .i64) (.bG (.int .i64) (.bG (.int .i64) (.bG jk (.bG (.int .i64) (.bG (.sl tI) (.bG .bh MK))))))
abbrev itV:It:=.cells [.n .data mg,.n .data mQ,.i .i64,.l .ak (.cb W jk (.sl tI))]
def zi:bQ:={args:=[.aW (.aB 0) 0,.one (.i .i64),.dj 43 []],aI:=[itV],res:=[.bC mg,.one (.i .i64)],jg:=[[O,O,O,O]]}
def B3{x:L}(h:sc x=W):(rb .i64 x).wf=W:=by simp_all [sc,Lit.wf,IntKind.min,IntKind.bits,Hs]
def aeP:aJ→Q ey×U×U|.slice p n c=>(p,n,c)|_=>(O,0,0)
def aeQ{w:bZ}{Z:U→Prop}{l:M mg.T}{v:aJ}(h:bA w Z (dN mg (J l)) v){m:U}(hm:m<Y l):∃(c dd cap:U)(hp:Q ey)(hn j:U),v=.slice (J ⟨c,dd,O⟩) (Y l) cap∧Z c∧ve w ⟨c,dd+m*2,O⟩=J (.int .i64 (l[m]).1)∧ve w ⟨c,dd+m*2+1,O⟩=J (.slice hp hn j)∧bA w Z (dN tP (l[m]).2) (.slice hp hn j):=by
 let⟨a,cap,p,f,q,r⟩:=(bA.ik (e:=2) rfl).1 h;simp only[kE]at p q;have g:a=⟨ac6 a,a.off,O⟩∧Z a.block:=by
  rcases f with f|⟨f,i⟩
  omega;exact⟨by let⟨b,o,s⟩:=a;cases f;rfl,i⟩
 let⟨c,dd,s⟩:=a;let⟨i,u⟩:=g;cases i;have d:(l.map (bf mg))[m]?=J (bf mg l[m]):=by grind
 let⟨_,k⟩:=r.aE d;generalize l[m]=x at *;let⟨fmt,ps⟩:=x;have t:bf mg (fmt,ps)=[.int .i64 fmt,dN tP ps]:=by cases ps<;>rfl
 rw[t]at k;let⟨⟨v0,y,n⟩,⟨v1,z,A⟩,_⟩:=k;have n:v0=.int .i64 fmt:=n;grind [Proofs.YtgbmhohlapmgbaaGreatDoor.vx.aev]
def aeR{w:bZ}{Z:U→Prop}{o:Q (M mQ.T)}{v:aJ}(h:bA w Z (dN mQ o) v):
  ∃(sp:Q ey)(P S cap:U)(tp:U→Q ey×U×U),v=.slice sp (o.getD []).length cap∧(0<(o.getD []).length→sp=J ⟨P,S,O⟩∧Z P)∧∀i,i<(o.getD []).length→
   (∀j u,(#[.int .i64 (bP (o.getD []) i).1,.int .i64 (bP (o.getD []) i).2.1,.int .i64 (bP (o.getD []) i).2.2.1,.int .i64 (bP (o.getD []) i).2.2.2.1.1,.int .i64 (bP (o.getD []) i).2.2.2.1.2,.int .i64 (bP (o.getD []) i).2.2.2.2.1,.slice (tp i).1 (tp i).2.1 (tp i).2.2,.string ⟨abf (bP (o.getD []) i).2.2.2.2.2.2.1⟩,.int .i64 (bP (o.getD []) i).2.2.2.2.2.2.2.1,.bool (bP (o.getD []) i).2.2.2.2.2.2.2.2]:bW aJ)[j]?=J u→ve w ⟨P,S+i*10+j,O⟩=J u)∧
   bA w Z (dN tI (bP (o.getD []) i).2.2.2.2.2.1) (.slice (tp i).1 (tp i).2.1 (tp i).2.2):=by
 cases o with
 |none=>exact⟨O,0,0,0,λ_=>(O,0,0),h,λh=>cO h (Nat.lt_irrefl 0),λi hi=>cO hi (Nat.not_lt_zero i)⟩|some l=>
  let⟨f,cap,V,t,g3,g4⟩:=(bA.ik (e:=10) rfl).1 h;simp only[kE]at V g3;refine⟨J f,ac6 f,f.off,cap,λi=>aeP ((ve w ⟨ac6 f,f.off+i*10+6,O⟩).getD (.slice O 0 0)),V,λhl=>?_,λi hi=>?_⟩;simp only[fL]at hl;rcases t with t|⟨t,g5⟩
  omega;exact⟨by let⟨b,o,sp⟩:=f;cases t;rfl,g5⟩;simp only[fL]at hi ⊢;have m:(l.map (bf mQ))[i]?=J (bf mQ l[i]):=by grind
  let⟨_,y⟩:=g4.aE m;have q:bP l i=l[i]:=by unfold bP;grind
  rw[q];generalize l[i]=x at *;let⟨z,A,B,⟨C,E⟩,F,k,H,K,N⟩:=x;have he:bf mQ (z,A,B,(C,E),F,k,H,K,N)=[.int .i64 z,.int .i64 A,.int .i64 B,.int .i64 C,.int .i64 E,.int .i64 F,dN tI k,.bh H,.int .i64 K,.bool N]:=by cases k<;>rfl
  have y:fB w Z (bf mQ (z,A,B,(C,E),F,k,H,K,N)) f.block (f.off+i*10):=y;rw[he]at y;have G:=λj d(hd:[D.int .i64 z,.int .i64 A,.int .i64 B,.int .i64 C,.int .i64 E,.int .i64 F,dN tI k,.bh H,.int .i64 K,.bool N][j]?=J d)=>fB.aE y hd;let⟨v6,X,R⟩:=G 6 _ rfl;have g:∃p n c,v6=.slice p n c:=by
   cases k with|none=>exact⟨O,0,0,R⟩|some l'=>let⟨X6,Y,e,_⟩:=(bA.ik (e:=3) rfl).1 R;exact⟨_,_,_,e⟩
  obtain⟨p,n,c,rfl⟩:=g;rw[X];simp only[fL,aeP];refine⟨λj u a=>?_,R⟩;match j,a with
  |0,a=>cases a;let⟨v,r,s⟩:=G 0 _ rfl;rw[r];exact bX J s
  |1,a=>cases a;let⟨v,r,s⟩:=G 1 _ rfl;rw[r];exact bX J s
  |2,a=>cases a;let⟨v,r,s⟩:=G 2 _ rfl;rw[r];exact bX J s
  |3,a=>cases a;let⟨v,r,s⟩:=G 3 _ rfl;rw[r];exact bX J s
  |4,a=>cases a;let⟨v,r,s⟩:=G 4 _ rfl;rw[r];exact bX J s
  |5,a=>cases a;let⟨v,r,s⟩:=G 5 _ rfl;rw[r];exact bX J s
  |6,a=>cases a;exact X
  |7,a=>cases a;let⟨v,r,s⟩:=G 7 _ rfl;rw[r];exact bX J s
  |8,a=>cases a;let⟨v,r,s⟩:=G 8 _ rfl;rw[r];exact bX J s
  |9,a=>cases a;let⟨v,r,s⟩:=G 9 _ rfl;rw[r];exact bX J s
  |j+10,a=>simp at a
def atI:iD prog 42 (zi.F λx=>sd x.1 x.2):=by
 intro args aI r B w vals β ω Z Y hok hpl g;unfold bQ.F at B;split at B
 ·rename_i f hz;let⟨num,bY,segs,next,cont⟩:=f;let⟨h1,h2⟩:=bQ.jf zi (by kernel_rfl) hz;subst h1 h2;split at B
  ·rename_i y hy;cases B;let⟨b,ws,el,lo,hi,xG,xL,hwb,hfz,o⟩:=g.aI (.aB 0);have o:aQ (λu c=>aR (cY prog 0 w vals β ω Z) β Z (dm (jq aL (zi.eQ (num,bY,segs,next,cont))) (jq aU (zi.fC (num,bY,segs,next,cont)))) {tmps:=#[],defers:=[]} w c u) ws.toList [cE (.n .data mg bY),cE (.n .data mQ segs),.d (.int .i64 next),cE (.l .ak (.cb W jk (.sl tI)) cont)]:=o;let⟨v0,e0,R⟩:=o.aE (j:=0) (b:=cE (.n .data mg bY)) rfl;let⟨v1,e1,S⟩:=o.aE (j:=1) (b:=cE (.n .data mQ segs)) rfl;rw[vu]at R S;have R:bA w Z (dN mg bY) v0:=R;have S:bA w Z (dN mQ segs) v1:=S;have Ao:b<w.heap.size:=(g.dZ b _ xL).2.1;have z:vals=#[.pointer (J ⟨b,0,O⟩),.int .i64 num,.func (.func 43) #[] #[]]:=vx.kU (l:=[.pointer (J ⟨b,0,O⟩),.int .i64 num,.func (.func 43) #[] #[]]) Y λi hi=>by
    match i,hi with
    |0,_=>let⟨b',T,V⟩:=(g.args 0).2;rw[xG]at T;cases T;exact V
    |1,_=>exact(g.args 1).2|2,_=>
     let⟨vs,T,V⟩:=(g.args 2).2;have:vs=#[]:=by
      apply Array.ext';cases hvs:vs.toList with|nil=>rfl|cons a t=>rw[hvs]at V;exact V.elim
     subst this;exact T
   subst z;simp only[sd,y5]at hy;split at hy
   ·rename_i hg;simp only[ck,eY,gy,dv]at hg;let⟨⟨hn0,D⟩,A,hwf⟩:=hg;obtain⟨l,rfl⟩:∃l,bY=J l:=by
     cases bY with|none=>simp at D;omega|some l=>exact⟨l,rfl⟩
    obtain⟨m,rfl⟩:=nW hn0;simp only[fL]at D hy;have hm:m<l.length:=(by omega);obtain⟨db,dd,s,hp,hn,X,rfl,E,d0,d1,d2⟩:=aeQ R hm;obtain⟨sp,sb,so,cap,tp,rfl,G,q⟩:=aeR S;have hgm:l.getD ((m:L)).toNat (0,O)=l[m]:=(by simp_all);rw[hgm]at hy;split at hy;cases hy
    ·rename_i us Py;split at hy
     ·rename_i H;simp only[ck,eY,gy]at H;let⟨K,N⟩:=H;have c0:ve w ⟨b,0,O⟩=J (.slice (J ⟨db,dd,O⟩) l.length s):=(by grind [er]);have c1:ve w ⟨b,1,O⟩=J (.slice sp (segs.getD []).length cap):=(by grind [er]);have walk:=vx.aeH (vals:=#[.pointer (J ⟨b,0,O⟩),.int .i64 (m:L),.func (.func 43) #[] #[]]) (β:=β) (ω:=ω) (Z:=Z) b sb so (segs.getD []).length cap db dd l.length s m 43 #[] (λi=>decide ((bP (segs.getD []) i).2.2.2.2.1=3)) sp (m:L) (l[m]).1 hp hn X (l[m]).2 us y (λi=>{id:=(bP (segs.getD []) i).1,doc:=(bP (segs.getD []) i).2.1,part:=(bP (segs.getD []) i).2.2.1,fr:=(bP (segs.getD []) i).2.2.2.1.1,to:=(bP (segs.getD []) i).2.2.2.1.2,state:=(bP (segs.getD []) i).2.2.2.2.1,tp:=(tp i).1,tn:=(tp i).2.1,tc:=(tp i).2.2,oV:=⟨abf (bP (segs.getD []) i).2.2.2.2.2.2.1⟩,src:=(bP (segs.getD []) i).2.2.2.2.2.2.2.1,fl:=(bP (segs.getD []) i).2.2.2.2.2.2.2.2}) (λi=>(bP (segs.getD []) i).2.2.2.2.2.1) w g Ao (λh=>g.dp _ (G h).2) (g.dp _ E) c0 rfl hm d0 d1 d2 c1 (λh=>(G h).1) A (λi hi=>B3 (hwf _ (by unfold bP;grind))) (.inl ⟨rfl,rfl⟩) (λk _ _ wa _=>vx.call43 _ _ _ _ _ _ _ _ _ _ _ _ _ wa) (λi hi=>(q i hi).1) (λi hi=>(q i hi).2) K (λx hx=>B3 (N x hx)) Py hy;refine walk.mono ?_;rintro e w' ⟨oU,Z2,rfl,⟨UW,UX,UY,UZ⟩,hD⟩;let⟨⟨v,P⟩,e'⟩:=y;refine⟨_,β,ω,Z2,rfl,aes g hok UW UX UY UZ rfl ?_ rfl ?_⟩;have:bO (λc u=>∃d,c=C.d d∧bA w' Z2 d u) (.tuple #[.agg #[.int .i64 v,oU],.int .i64 e']) (.bw [(W,[.d (.int .i64 v),.d (dN tP P)]),(I,[.d (.int .i64 e')])]):=⟨_,rfl,⟨_,rfl,⟨_,rfl,rfl⟩,⟨_,rfl,hD⟩,trivial⟩,⟨_,rfl,rfl,_,rfl,rfl⟩,trivial⟩;cases P<;>exact this
      ·intro i cs p c X;match i,p with
       |0,p=>
        have p:[cE (.n .data mg (J l)),cE (.n .data mQ segs),C.d (.int .i64 next),cE (.l .ak (.cb W jk (.sl tI)) cont)]=cs:=ra p;subst p;simp only[jQ,List.not_mem_nil,or_false]at X;rcases X with rfl|rfl|rfl|rfl
        exact .inl rfl;rw[vu];exact .inl rfl;exact .inl rfl;exact .inl rfl
       |i+1,p=>have hlen:(jq aU (zi.fC ((m:L),J l,segs,next,cont))).length=1:=rfl;grind
     cases hy
   cases hy
  cases B
 cases B
def atJ:lx prog 42 (zi.F λx=>sd x.1 x.2):=qk Tryz.func42 (by kernel_rfl) rfl atI
def aeS:cU:=zi.fD (by kernel_rfl) λx=>sd x.1 x.2
def atK:dr prog (42,aeS):=atJ
abbrev aeT:{p:dT×cU // dr prog p}:=⟨(42,aeS),atK⟩
set_option maxRecDepth 100000
def U0:Bd:=gd func12 (sg [.bC fS,oI] [oS,oI]) (u2 tO) (fx 9 [4,5] 66039 [.aw 2,.aw 8,.cm 12 0]) [M7,aeT,Tt]
abbrev U1:cU:=U0.1.2
def G12:dr prog (12,U1):=U0.2
def U5:Bd:=gd func16 (sg [.bC fS,oI] [.one (.n .data nJ),oI]) (u2 y9) (fy 0 [0,1,4,5,6,7,9,11,12,13,14,16,18,19] [4,5] 5444517871408454797375612678668518686455 [.aw 2,.aw 8,.aw 10,.aw 15,.aw 17,.aw 20,.cm 24 0]) [M7,aeT,B49,B50] (ll [⟨⟨(bt 1970324836990018),[(.aw 10),(.cm 24 0)],[.a6 11 (.n .ak nJ),sI 12,sI 13,sI 50]⟩,[(.exit 0,⟨[11],[],[.a6 11 (.n .ak nJ)]⟩)],O⟩,⟨⟨(bt 1970324837104706),[(.aw 10),(.aw 15),(.cm 24 0)],[.a6 11 (.n .ak nJ),sI 12,sI 13]⟩,[(.exit 2,⟨(bt 1970324837022786),[(.aw 10),(.aw 15),(.cm 24 0)],[.a6 11 (.n .ak nJ),sI 12,sI 13]⟩)],O⟩])
abbrev U6:cU:=U5.1.2
def G16:dr prog (16,U6):=U5.2
end
end Go.Proofs.YtgbmhohlapmgbaaGreatDoor.vd
namespace Go.Vs
open Go
variable{af:bM}{P:Program}{Z:Nat→Prop}{w:World}
def atM(hT:ip P af){t kt:bq}{ki ei:TI}(hm:jD af t=J (kt,ki,ei)){sh:M Sc}(r:rp af kt=J sh){z:M D}{zv:aJ}(e:∀p w,P.underlying t=J (.map kt p)→(zeroValue p).run P w=.ok zv w)(s:iK ei.kind.agg ei.size zv)(u:DL w Z zv.cells.toList z) {v:Nat}(Y:v=dn ki ei∨v=kf (dn ki ei)){xs:M (M D)}{b:Nat}(hM:ej w Z v xs b)(y:lm sh ki.size xs=W){kd:M D}(c:cB sh kd=W)(A:ki.kind.agg=I→kd.length=1):b<w.heap.size∧∃B,iK ei.kind.agg ei.size B∧DL w Z B.cells.toList (iR ki.size xs z (eA ki.size kd xs))∧∀w':World,(∀b,Z b→w'.heap[b]?=w.heap[b]?)→w'.heap[b]?=w.heap[b]? →(wV t (.map (J b)) (eI ki.kind.agg kd) I).run P w'=.ok B w':=by
 let⟨p,C,E,O3,f,g⟩:=uT hT hm;have N:=Iy hT E r;have d:=sT f g Y;have e:=λw=>e p w C;let⟨es,cq,es',F,G,R,gp,_⟩:=(ej.mu d.it).1 hM;rw[d.oe]at G;have k:b<w.heap.size:=(pR.1 F).1;have j:=λ(w':World)(hZ:∀b,Z b→w'.heap[b]?=w.heap[b]?)=>IB (w:=w') (Z:=Z) N f g (OX (λb h=>⟨hZ b h,h⟩) R) gp G y c A;have l:∀w':World,(Instr.checkKey es.isEmpty 10000 kt (eI ki.kind.agg kd)).run P w'=.ok () w':=λw'=>N.check w' kd _ c;cases q:eA ki.size kd xs with
 |none=>
  refine⟨k,zv,s,u,λw' hZ H=>?_⟩;rcases j w' hZ with⟨a,S,_⟩|⟨i,m,x,en,a,_⟩
  simp only[wV,dC,lh C,dF,fF,qh (H.trans F),l,S,e];rfl;grind
 |some m=>
  rcases j w (λ_ _=>rfl)with⟨a,_⟩|⟨i,m',x,en,a,S,T,n,q4,q5,_⟩
  rw[q]at a;cases a;rw[q]at a;cases a;have K:=G.ok en (fK q4);let⟨x',V,p2⟩:=rD R n;rw[T]at V;cases V;let⟨hk,hv⟩:=(xI f g).1 K;let⟨_,p4⟩:=Ak hk p2;refine⟨k,en.val,hv,by simp only[iR,kU T];exact p4,λw' hZ H=>?_⟩;rcases j w' hZ with⟨a,_⟩|⟨i2,m2,x2,en2,X,r2,r3,o,r4,_⟩
  rw[q]at a;cases a;rw[q]at X;cases X;rw[n]at o;cases o;simp only[wV,dC,lh C,dF,fF,qh (H.trans F),l,r2];rfl
end Go.Vs
namespace Go.Proofs.YtgbmhohlapmgbaaGreatDoor.vd
open Go Go.Vs Go.Ve Go.Fd Go.Proofs.Tryz
abbrev zj:Ty:=.cb W (.bG (.int .i64) (.int .i64)) (.sl tI)
def atN(w:World):(zeroValue 42).run prog w=.ok (.slice O 0 0) w:=by kernel_rfl
def atO{K:dh}{β:aC→Q Nat}{Z:Nat→Prop}{s:St}{a:Act}{w:World}{cont:M zj.T}{u:aJ}(h:aR K β Z s a w (cE (.l .ak zj cont)) u){d p:L}(hd:(rb .i64 d).wf=W)(hp:(rb .i64 p).wf=W):∃v,bA w Z (dN tI (X (du (.bG (.int .i64) (.int .i64)) (d,p) cont) O)) v∧∃b,u=.map (J b)∧b<w.heap.size∧∀w':World,(∀b,Z b→w'.heap[b]?=w.heap[b]?)→w'.heap[b]?=w.heap[b]? →(wV 89 u (.agg #[.int .i64 d,.int .i64 p]) I).run prog w'=.ok v w':=by
 have h:aR K β Z s a w (.ak zj.e (cont.map (bf zj))) u:=h;obtain⟨b,rfl,B⟩:=(aR.kG (by rfl)).1 h;have hT:ip prog TL.af.c:=pJ rfl rfl;have g:∀k w,acK prog 89=J (.map 180 k)→(zeroValue k).run prog w=.ok (.slice O 0 0) w:=λk w h=>by
  have e:acK prog 89=J (.map 180 42):=by kernel_rfl
  rw[e]at h;cases h;exact atN w
 let⟨m,n,h1,h2,h3⟩:=atM (ki:=⟨2,16,.struct [(0,3),(1,3)],J [.int .i64 0,.int .i64 0]⟩) (ei:=⟨1,24,.slice 77,J [.nil]⟩) (sh:=[.int .i64,.int .i64]) (z:=[.nil]) (kt:=180) (kd:=bf (.bG (.int .i64) (.int .i64)) (d,p)) hT (t:=89) (by kernel_rfl) (by kernel_rfl) (zv:=.slice O 0 0) g ⟨rfl,rfl⟩ ⟨rfl,trivial⟩ (by right;kernel_rfl) B (DR (by rfl) cont) (by rfl) (λh=>by cases h);have f:iR 2 (cont.map (bf zj)) [.nil] (eA 2 (bf (.bG (.int .i64) (.int .i64)) (d,p)) (cont.map (bf zj)))=bf (.sl tI) (X (du (.bG (.int .i64) (.int .i64)) (d,p) cont) O):=by
  have hk:po (.bG (.int .i64) (.int .i64))=J [.int .i64,.int .i64]:=rfl;have:=AX (u:=W) (v:=.sl tI) hk (d,p) cont;have C:Ty.w (.bG (.int .i64) (.int .i64))=2:=rfl;rw[C]at this;rcases this with⟨q,y,_⟩|⟨i,r,q,y,E,_⟩
  rw[q,y];rfl;grind [iR,JN]
 rw[f]at h2;refine⟨n,?_,b,rfl,m,h3⟩;generalize X (du (.bG (.int .i64) (.int .i64)) (d,p) cont) O=o at h2;have D:bf (.sl tI) o=[dN tI o]:=by cases o<;>rfl
 rw[D]at h2;let⟨x,F,G⟩:=h2.aE (j:=0) rfl;have A:hJ n=W:=h1.1;simp_all [lX]
end Go.Proofs.YtgbmhohlapmgbaaGreatDoor.vd
namespace Go.Proofs.YtgbmhohlapmgbaaGreatDoor.vd
open Go Go.Vs Go.Ve Go.Fd Go.Proofs.Tryz
section
variable{w0 w:World}{vals:Array Value}{β:aC→Option Nat}{ω:Nat→Option cT}{Z Z1:Nat→Prop}{args:List SV}{aI:List (List C)}
def atP(m:aY (cY prog 0 w0 vals β ω Z) β ω Z (dm args aI) {tmps:=#[],defers:=[]} w0)(B:c7 w0.heap.size w0 w)(hZ:∀b,Z b→Z1 b)(n:∀b,Z1 b→b<w.heap.size) {f:Option (List (L×List ao×L))}{fr to:L}{y:Value}{r:Option (List (L×List ao×L))}{bl:az} (z:bA w Z1 (dN tI f) y)(E:qE f fr to=J (r,bl)):ez prog 27 #[y,.int .i64 fr,.int .i64 to] w λe w'=>∃rv j,e=.returned (.tuple #[rv,.bool bl])∧Gu w w' Z1 j∧bA w' j (dN tI r) rv:=by
 have g:(Gp.eQ (f,fr,to)).map aL=[.one (.d (dN tI f)),.one (.d (.int .i64 fr)),.one (.d (.int .i64 to))]:=by cases f<;>rfl
 refine(M8 (S:=Gp) (x:=(f,fr,to)) adG (by kernel_rfl) rfl rfl E m B hZ n rfl (by rw[g];rfl) (λi c h e xs=>?_) (λi=>?_)).mono ?_;rw[g]at h;match i,h with|0,h=>simp[SV.cells]at h;subst h;simp|1,h=>simp[SV.cells]at h;subst h;simp|2,h=>simp[SV.cells]at h;subst h;simp|i+3,h=>simp[SV.cells]at h
 rw[g];match i with|0=>exact⟨xD z,z⟩|1=>exact⟨rfl,rfl⟩|2=>exact⟨rfl,rfl⟩|i+3=>trivial
 rintro e w' ⟨h1,v,j,K,k,s,a,rfl,h2,h3,F,o⟩;have o:bO (aR K k j s a w') v (.bw [(I,[.d (dN tI r)]),(I,[.d (.bool bl)])]):=by cases r<;>exact o
 obtain⟨vs,rfl,A⟩:=o;obtain⟨l,G⟩:∃l,vs=List.toArray l:=⟨vs.toList,by simp⟩;subst G;simp only at A;match l,A with|[u1,u2],⟨p,q,_⟩=>have p:∃c,[C.d (dN tI r)]=[c]∧hJ u1=W∧aR K k j s a w' c u1:=p;have q:∃c,[C.d (D.bool bl)]=[c]∧hJ u2=W∧aR K k j s a w' c u2:=q;let⟨c1,t,_,H⟩:=p;let⟨c,h,_,u⟩:=q;cases t;cases h;have u:u2=.bool bl:=u;subst u;exact⟨u1,j,rfl,⟨h1,h2,h3,F⟩,H⟩
def atQ(k:aY (cY prog 0 w0 vals β ω Z) β ω Z (dm args aI) {tmps:=#[],defers:=[]} w0)(u:c7 w0.heap.size w0 w)(hZ:∀b,Z b→Z1 b)(l:∀b,Z1 b→b<w.heap.size) {f g:Option (List (L×List ao×L))}{o p:Value}{r:az} (q:bA w Z1 (dN tI f) o)(t:bA w Z1 (dN tI g) p)(y:r8 f g=J r):ez prog 47 #[o,p] w λe w'=>e=.returned (.bool r)∧c7 w.heap.size w w':=by
 have h:(Gr.eQ (f,g)).map aL=[.one (.d (dN tI f)),.one (.d (dN tI g))]:=by cases f<;>cases g<;>rfl
 refine(M8 (S:=Gr) (x:=(f,g)) adT (by kernel_rfl) rfl rfl y k u hZ l rfl (by rw[h];rfl) (λi c j e xs=>?_) (λi=>?_)).mono ?_;rw[h]at j;match i,j with|0,j=>simp[SV.cells]at j;subst j;simp|1,j=>simp[SV.cells]at j;subst j;simp|i+2,j=>simp[SV.cells]at j
 rw[h];match i with|0=>exact⟨xD q,q⟩|1=>exact⟨xD t,t⟩|i+2=>trivial
 rintro e w' ⟨h1,v,z,K,m,s,a,rfl,h2,h3,B,A⟩;have n:aR K m z s a w' (.d (.bool r)) v:=A.2;have n:v=.bool r:=n;exact⟨by rw[n],h1⟩
end
end Go.Proofs.YtgbmhohlapmgbaaGreatDoor.vd
namespace Go.Proofs.YtgbmhohlapmgbaaGreatDoor.vx
open Go Go.RowKit Go.Proofs Go.ChangeMaps Go.MapKept
open Go.Vs (aY cY dm bA SV C D aC cT)
def atR(w:World)(a b c n cap i:Nat)(d p:L)(u v:Value)(hi:i<n)(f:ve w ⟨a,1,O⟩=J (.slice (J ⟨b,c,O⟩) n cap))(g:ve w ⟨a,3,O⟩=J u) (hd:ve w ⟨b,c+i*10+1,O⟩=J (.int .i64 d))(hp:ve w ⟨b,c+i*10+2,O⟩=J (.int .i64 p))(h:(wV 89 u (.agg #[.int .i64 d,.int .i64 p]) I).run be w.drew=.ok v w.drew):ez be 93 #[.pointer (J ⟨a,0,O⟩),.int .i64 i] w λe w'=>e=.returned v∧c7 w.heap.size w w':=by
 have j:(i:L)<(n:L):=by omega
 go_enter Tryz.func93,Tryz.ntmps93;go_wp2;go_region;go_wp2;refine bodyPost_ret (v:=v) (by simp[results,Tryz.results93,go_sem]) rfl ?_;exact⟨rfl,(m9 _ _).drew⟩
set_option maxHeartbeats 4000000 in
def atT(w:World)(l m o n cap i:Nat)(fr to:L)(v:Value)(Q:Value→World→Prop)(hi:i<n)(x:l<w.heap.size)(p:ve w ⟨l,1,O⟩=J (.slice (J ⟨m,o,O⟩) n cap)) (hd:ve w ⟨m,o+i*10+3,O⟩=J (.int .i64 fr))(hp:ve w ⟨m,o+i*10+4,O⟩=J (.int .i64 to)) (g:∀w',c7 w.heap.size w w'→ez be 93 #[.pointer (J ⟨l,0,O⟩),.int .i64 i] w' λe b=>e=.returned v∧c7 w'.heap.size w' b) (j:∀w',c7 w.heap.size w w'→ez be 27 #[v,.int .i64 fr,.int .i64 to] w' λe b=>∃c u,e=.returned (.tuple #[c,.bool u])∧c7 w'.heap.size w' b∧Q c b):ez be 48 #[.pointer (J ⟨l,0,O⟩),.int .i64 i] w λe w'=>∃c,e=.returned c∧c7 w.heap.size w w'∧Q c w':=by
 have z:(i:L)<(n:L):=by omega
 have q:Hid _:=g;have r:Hid _:=j;clear g j;go_enter Tryz.func48,Tryz.ntmps48;go_wp2;generalize a:ac2 w (o9 #[.int .i64 fr,.int .i64 to] 41)=d;have A:d.heap.size=w.heap.size+1:=by subst a;simp
 have k:c7 w.heap.size w d.drew:=by subst a;exact(adM (m9 _ _) (Nat.le_refl _) _).drew
 have t0:ve d ⟨w.heap.size,0,O⟩=J (.int .i64 fr):=by subst a;go_simp
 have t1:ve d ⟨w.heap.size,1,O⟩=J (.int .i64 to):=by subst a;go_simp
 have step:∀f,c7 d.drew.heap.size d.drew f→c7 w.heap.size w f∧ve f ⟨w.heap.size,0,O⟩=J (.int .i64 fr)∧ve f ⟨w.heap.size,1,O⟩=J (.int .i64 to):=λf h=>by have e:d.drew.heap.size=w.heap.size+1:=A;refine⟨ad3 k (h.mono (by omega)),?_,?_⟩;rw[h.cell (show w.heap.size<_ by omega)];exact t0;rw[h.cell (show w.heap.size<_ by omega)];exact t1
 have B:Hid _:=step;clear p hd hp a step
 go_region_with (first
  |(go_at_call 93;refine(q.out _ k).mono ?_;rintro e f ⟨rfl,s⟩;let⟨y,D,E⟩:=B.out _ s)
  |(go_at_call 27;refine(r.out _ (by assumption)).mono ?_;rintro e F ⟨c,u,rfl,t,C⟩))
 all_goals go_wp2
 all_goals exact bodyPost_ret (v:=c) (by simp[results,Tryz.results48,go_sem]) rfl ⟨c,rfl,ad3 y (t.mono y.size),C⟩
end Go.Proofs.YtgbmhohlapmgbaaGreatDoor.vx
namespace Go.Proofs.YtgbmhohlapmgbaaGreatDoor.vx
noncomputable section
section
open Go Go.RowKit Go.Proofs Go.ChangeMaps Go.MapKept
open Go.Vs (aY cY dm bA SV C D aC cT)
def zk(n:L):L:=if n=0 then 1 else n
def aeU(n:L):(zk n !=0)=W:=by unfold zk;split<;>simp_all
attribute [local go_sem] aeU
set_option maxHeartbeats 4000000 in
def aeV(w:bZ)(B r i:U)(S:Sg)(k:az)(Q:aJ→bZ→Prop)(s:r<w.heap.size)(t:ve w ⟨r,0,O⟩=J (.pointer (J ⟨B,0,O⟩))) (a:S.state≠0→∀w',c7 w.heap.size w w'→ez be 48 #[.pointer (J ⟨B,0,O⟩),.int .i64 i] w' λe f=>∃q,e=.returned q∧c7 w'.heap.size w' f∧Q q f) (b:S.state≠0→∀w' q,c7 w.heap.size w w'→Q q w'→ez be 47 #[q,.slice S.tp S.tn S.tc] w' λe f=>e=.returned (.bool k)∧c7 w'.heap.size w' f):
  ez be 46 #[.int .i64 i,.agg #[.int .i64 S.id,.int .i64 S.doc,.int .i64 S.part,.int .i64 S.fr,.int .i64 S.to,.int .i64 S.state,.slice S.tp S.tn S.tc,.string S.oV,.int .i64 S.src,.bool S.fl],.pointer (J ⟨r,0,O⟩)] w
   λe w'=>e=.returned (.bool (if S.state=0 then I else k))∧c7 w.heap.size w w':=by
 by_cases c:S.state=0
 ·rw[c];clear a b;go_enter Tryz.func46,Tryz.ntmps46;go_wp2;go_region;go_wp2;exact bodyPost_ret (v:=.bool I) (by simp[results,Tryz.results46,go_sem]) rfl ⟨rfl,(adM (m9 _ _) (dR _) _).drew⟩
 ·let⟨C,u,j,D,E,st,l,m,n,F,x,G⟩:=S;simp only at *;have X:zk st≠0:=by simpa using aeU st
  have a:=a c;have b:=b c;have z:st=zk st:=by unfold zk;rw[aV c]
  clear c;rw[z];clear z;have H:Hid _:=a;have K:Hid _:=b;clear a b;go_enter Tryz.func46,Tryz.ntmps46;go_wp2;generalize d:ac2 w (o9 #[.int .i64 C,.int .i64 u,.int .i64 j,.int .i64 D,.int .i64 E,.int .i64 (zk st),.slice l m n,.string F,.int .i64 x,.bool G] 44)=g;have R:g.heap.size=w.heap.size+1:=by subst d;simp
  have o:c7 w.heap.size w g.drew:=by subst d;exact(adM (m9 _ _) (dR _) _).drew
  have t0:ve g ⟨w.heap.size,5,O⟩=J (.int .i64 (zk st)):=by subst d;go_simp
  have t1:ve g ⟨w.heap.size,6,O⟩=J (.slice l m n):=by subst d;go_simp
  have t2:ve g ⟨r,0,O⟩=J (.pointer (J ⟨B,0,O⟩)):=ab0 (o.cell (p:=⟨r,0,O⟩) s) t;have step:∀A,c7 g.drew.heap.size g.drew A→c7 w.heap.size w A∧ve A ⟨w.heap.size,6,O⟩=J (.slice l m n):=λA h=>by have e:g.drew.heap.size=w.heap.size+1:=R;refine⟨ad3 o (h.mono (by omega)),?_⟩;rw[h.cell (show w.heap.size<_ by omega)];exact t1
  have T:Hid _:=step;clear s t d step
  go_region_with (first
   |(go_at_call 48;refine(H.out _ o).mono ?_;rintro e A ⟨q,rfl,N,V⟩;let⟨y,Y⟩:=T.out _ N)
   |(go_at_call 47;refine(K.out _ _ y V).mono ?_;rintro e Z ⟨rfl,P⟩))
  all_goals go_wp2
  all_goals exact bodyPost_ret (v:=.bool k) (by simp[results,Tryz.results46,go_sem]) rfl ⟨rfl,ad3 y (P.mono y.size)⟩
end
end
end Go.Proofs.YtgbmhohlapmgbaaGreatDoor.vx
namespace Go.Proofs.YtgbmhohlapmgbaaGreatDoor.vd
noncomputable section
open Go Go.Vs Go.Ve Go.Fd Go.Proofs.Tryz
open Go.RowKit (Below)
def Nb{B:U}{w w':bZ}(h:c7 B w w'){b:U}(a:b<B):w'.heap[b]?=w.heap[b]? :=ady h b a
theorem call46{w wa:World}{vals:Array Value}{β:aC→Option Nat}{ω:Nat→Option cT}{Z:Nat→Prop}{args:List SV}{aI:List (List C)}{K:dh}{s:St}{a:Act}
  (hent:aY (cY prog 0 w vals β ω Z) β ω Z (dm args aI) {tmps:=#[],defers:=[]} w)(hb:Below w.heap.size w wa){b cb' sb so cap:Nat}{u:Value}(v:my)
  (Ao:b<w.heap.size)(hcbl:cb'<w.heap.size)(O8:sb<w.heap.size)(hcb:ve w ⟨cb',0,none⟩=some (.pointer (some ⟨b,0,none⟩)))(hc1:ve w ⟨b,1,none⟩=some (.slice (some ⟨sb,so,none⟩) (Y (X v.2.1 [])) cap))(hc3:ve w ⟨b,3,none⟩=some u)(rB:aR K β Z s a w (cE (.l .ak zj v.2.2.2)) u)
  {k:Nat}(hk:k<Y (X v.2.1 []))(S:vx.Sg)(h1:S.doc=(bP (X v.2.1 []) k).2.1)(h2:S.part=(bP (X v.2.1 []) k).2.2.1)(h3:S.fr=(bP (X v.2.1 []) k).2.2.2.1.1)(h4:S.to=(bP (X v.2.1 []) k).2.2.2.1.2)(h5:S.state=(bP (X v.2.1 []) k).2.2.2.2.1)
  (hs:∀j x,S.cells[j]?=some x→ve w ⟨sb,so+k*10+j,none⟩=some x)(htg:bA w Z (dN tI (bP (X v.2.1 []) k).2.2.2.2.2.1) S.tgt){kk:Bool}(hkp:se v k=some kk)(U2:(Lit.int .i64 S.doc).wf=true)(hwp:(Lit.int .i64 S.part).wf=true):
  Calls prog 46 #[.int .i64 (k:Int),.agg #[.int .i64 S.id,.int .i64 S.doc,.int .i64 S.part,.int .i64 S.fr,.int .i64 S.to,.int .i64 S.state,.slice S.tp S.tn S.tc,.string S.oV,.int .i64 S.src,.bool S.fl],.pointer (some ⟨cb',0,none⟩)] wa fun e w'=>e=.returned (.bool kk)∧Below wa.heap.size wa w':=by
 have hcell:∀{w':World},Below w.heap.size w w'→∀{b o:Nat}{x:Value},b<w.heap.size→ve w ⟨b,o,none⟩=some x→ve w' ⟨b,o,none⟩=some x:=by
  intro w' h b o x hb hx
  exact(h.cell (p:=⟨b,o,none⟩) hb).trans hx
 have hbt:∀{w':World},Below wa.heap.size wa w'→Below w.heap.size w w':=fun h=>ad3 hb (h.mono hb.size)
 unfold se Mn ah at hkp
 rw[←h5]at hkp
 by_cases hst:S.state=0
 ·have hkk:kk=false:=by
    grind
  subst hkk
  refine(vx.aeV wa b cb' k S false (fun _ _=>True) (by have:=adY hb;omega) (hcell hb hcbl hcb) (fun h=>absurd hst h) (fun h=>absurd hst h)).mono ?_
  grind
 ·rw[if_pos (by simpa using hst)]at hkp
  cases hsrc:wn (k:Int) v with
  |none=>simp_all
  |some r1=>
   rw[hsrc]at hkp
   have hkp:aq (r8 r1 (bP (X v.2.1 []) k).2.2.2.2.2.1) (fun r2=>some r2)=some kk:=hkp
   cases hcm:r8 r1 (bP (X v.2.1 []) k).2.2.2.2.2.1 with
   |none=>simp_all
   |some r2=>
    rw[hcm]at hkp
    have hkp:some r2=some kk:=hkp
    cases hkp
    have hseg:H (X v.2.1 []) (G ((k:Int))) ((0:Int),(0:Int),(0:Int),((0:Int),(0:Int)),(0:Int),none,[],(0:Int),false)=bP (X v.2.1 []) k:=by rw[Int.toNat_natCast];rfl
    have hin:decide ((0:Int)≤(k:Int)∧(k:Int)<ag (X v.2.1 []))=true:=by simp_all
    unfold wn wm cJ aM au al at hsrc;dsimp-proj only[aj]at hsrc
    rw[if_pos hin,if_pos (by rw[hin];rfl),hseg,←h1,←h2,←h3,←h4]at hsrc
    obtain⟨vv,hdv,mb,rfl,hmb,hrun⟩:=atO rB U2 hwp
    generalize X (du (.bG (.int .i64) (.int .i64)) (S.doc,S.part) v.2.2.2) none=c at hsrc hdv
    have hsrc:aq (qE c S.fr S.to) (fun r2=>some r2.1)=some r1:=hsrc
    cases hsl:qE c S.fr S.to with
    |none=>simp_all
    |some y=>
     obtain⟨y1,bl⟩:=y
     rw[hsl]at hsrc
     have hsrc:some y1=some r1:=hsrc
     cases hsrc
     have hZl:∀{w':World},Below w.heap.size w w'→∀q,Z q→q<w'.heap.size:=fun h q hq=>Nat.lt_of_lt_of_le (hent.dp q hq) h.size
     have hZm:∀{w':World},Below w.heap.size w w'→∀{d:D}{x:Value},bA w Z d x→bA w' Z d x:=by
      intro w' h d x hd
      exact bA.mono (fun q hq=>⟨Nb h (hent.dp q hq),hq⟩) _ _ hd
     refine(vx.aeV wa b cb' k S kk (fun rv w2=>∃Z2:Nat→Prop,Below w.heap.size w w2∧(∀q,Z q→Z2 q)∧(∀q,Z2 q→q<w2.heap.size)∧bA w2 Z2 (dN tI r1) rv) (by have:=adY hb;omega) (hcell hb hcbl hcb) (fun _ w2 IJ=>?_) (fun _ w3 rv hw3 hQ=>?_)).mono ?_
     ·have hB2:=hbt IJ
      refine vx.atT w2 b sb so _ cap k S.fr S.to vv (fun rv w2=>∃Z2:Nat→Prop,Below w.heap.size w w2∧(∀q,Z q→Z2 q)∧(∀q,Z2 q→q<w2.heap.size)∧bA w2 Z2 (dN tI r1) rv) hk (by have:=adY hB2;omega) (hcell hB2 Ao hc1) (hcell hB2 O8 (hs 3 _ rfl)) (hcell hB2 O8 (hs 4 _ rfl)) (fun w4 hw4=>?_) (fun w4 hw4=>?_)
      ·have hB4:Below w.heap.size w w4:=ad3 hB2 (hw4.mono hB2.size)
       refine vx.atR w4 b sb so _ cap k S.doc S.part _ vv hk (hcell hB4 Ao hc1) (hcell hB4 Ao hc3) (hcell hB4 O8 (hs 1 _ rfl)) (hcell hB4 O8 (hs 2 _ rfl)) (hrun _ (fun q hq=>?_) ?_)
       ·exact Nb hB4.drew (hent.dp q hq)
       ·exact Nb hB4.drew hmb
      ·have hB4:Below w.heap.size w w4:=ad3 hB2 (hw4.mono hB2.size)
       refine(atP hent hB4 (fun q hq=>hq) (hZl hB4) (hZm hB4 hdv) hsl).mono ?_
       rintro e w5 ⟨rv,Z2,rfl,⟨g1,g2,g3,g4⟩,g5⟩
       exact⟨rv,bl,rfl,g1,Z2,ad3 hB4 (g1.mono hB4.size),g2,g4,g5⟩
     ·obtain⟨Z2,g1,g2,g3,g4⟩:=hQ
      exact atQ hent g1 g2 g3 g4 (bA.mono (fun q hq=>⟨Nb g1 (hent.dp q hq),g2 q hq⟩) _ _ htg) hcm
     grind
def tV:bQ:={args:=[.aW (.aB 0) 0,.one (.i .i64),.dj 46 [(.aB 1,0)]],aI:=[itV,.kK (.aB 0) 0],res:=[.bC mg,.one (.i .i64)],jg:=[[O,O,O,O],[O]]}
def atZ:iD prog 42 (tV.F λx=>y6 x.1 x.2):=by
 intro args aI r K w vals β ω Z hsz hok hpl a;unfold bQ.F at K;split at K
 ·rename_i f hz;let⟨num,bY,segs,next,cont⟩:=f;let⟨h1,h2⟩:=bQ.jf tV (by kernel_rfl) hz;subst h1 h2;split at K
  ·rename_i y hy;cases K;let⟨b,ws,el,lo,hi,P,xL,B,hfz,p⟩:=a.aI (.aB 0);have p:aQ (λu c=>aR (cY prog 0 w vals β ω Z) β Z (dm (jq aL (tV.eQ (num,bY,segs,next,cont))) (jq aU (tV.fC (num,bY,segs,next,cont)))) {tmps:=#[],defers:=[]} w c u) ws.toList [cE (.n .data mg bY),cE (.n .data mQ segs),.d (.int .i64 next),cE (.l .ak (.cb W jk (.sl tI)) cont)]:=p;let⟨v,Ah,CS,CT,hi2,aeI,R,hwc,hfc,q⟩:=a.aI (.aB 1);have q:aQ (λu c=>aR (cY prog 0 w vals β ω Z) β Z (dm (jq aL (tV.eQ (num,bY,segs,next,cont))) (jq aU (tV.fC (num,bY,segs,next,cont)))) {tmps:=#[],defers:=[]} w c u) Ah.toList [.aW (.aB 0) 0]:=q;obtain⟨vc,ec,b',S,rfl⟩:=q.aE (j:=0) (b:=.aW (.aB 0) 0) rfl;rw[P]at S;cases S;let⟨v3,e3,r3⟩:=p.aE (j:=3) (b:=cE (.l .ak (.cb W jk (.sl tI)) cont)) rfl;let⟨v0,e0,r0⟩:=p.aE (j:=0) (b:=cE (.n .data mg bY)) rfl;let⟨v1,e1,r1⟩:=p.aE (j:=1) (b:=cE (.n .data mQ segs)) rfl;rw[vu]at r0 r1;have r0:bA w Z (dN mg bY) v0:=r0;have r1:bA w Z (dN mQ segs) v1:=r1;have T:b<w.heap.size:=(a.dZ b _ xL).2.1;have V:v<w.heap.size:=(a.dZ v _ R).2.1;have D:vals=#[.pointer (J ⟨b,0,O⟩),.int .i64 num,.func (.func 46) #[] #[.pointer (J ⟨v,0,O⟩)]]:=vx.kU (l:=[.pointer (J ⟨b,0,O⟩),.int .i64 num,.func (.func 46) #[] #[.pointer (J ⟨v,0,O⟩)]]) hsz λi hi=>by
    match i,hi with
    |0,_=>let⟨b',q1,X⟩:=(a.args 0).2;rw[P]at q1;cases q1;exact X
    |1,_=>exact(a.args 1).2|2,_=>
     let⟨vs,q1,X⟩:=(a.args 2).2;have:vs=#[.pointer (J ⟨v,0,O⟩)]:=by
      apply Array.ext';match hvs:vs.toList,X with|[u],X=>let⟨⟨c',g1,g2⟩,_⟩:=X;grind
     subst this;exact q1
   subst D;simp only[y6]at hy;split at hy;case isFalse=>cases hy
   rename_i Y;simp only[gy,List.mem_range]at Y;simp only[y5]at hy;split at hy
   ·rename_i hg;simp only[ck,eY,gy,dv]at hg;let⟨⟨hn0,xM⟩,E,hwf⟩:=hg;obtain⟨l,rfl⟩:∃l,bY=J l:=by
     cases bY with|none=>simp at xM;omega|some l=>exact⟨l,rfl⟩
    obtain⟨m,rfl⟩:=nW hn0;simp only[fL]at xM hy;have hm:m<l.length:=(by omega);obtain⟨db,dd,z,hp,hn,N,rfl,hZdb,d0,d1,d2⟩:=aeQ r0 hm;obtain⟨sp,sb,so,cap,tp,rfl,G,o⟩:=aeR r1;have hgm:l.getD ((m:L)).toNat (0,O)=l[m]:=(by simp_all);rw[hgm]at hy;split at hy;cases hy
    ·rename_i us Py;split at hy
     ·rename_i hg2;simp only[ck,eY,gy]at hg2;let⟨azV,husw⟩:=hg2;have c0:w.cell? ⟨b,0,O⟩=J (.slice (J ⟨db,dd,O⟩) l.length z):=(by rw[qV]at e0;simp[er,B,e0]);have c1:w.cell? ⟨b,1,O⟩=J (.slice sp (segs.getD []).length cap):=(by rw[qV]at e1;simp[er,B,e1]);refine(vx.aeH (vals:=#[.pointer (J ⟨b,0,O⟩),.int .i64 (m:L),.func (.func 46) #[] #[.pointer (J ⟨v,0,O⟩)]]) (β:=β) (ω:=ω) (Z:=Z) b sb so (segs.getD []).length cap db dd l.length z m 46 #[.pointer (J ⟨v,0,O⟩)] (λi=>(se (J l,segs,next,cont) i).getD I) sp (m:L) (l[m]).1 hp hn N (l[m]).2 us y (λi=>{id:=(bP (segs.getD []) i).1,doc:=(bP (segs.getD []) i).2.1,part:=(bP (segs.getD []) i).2.2.1,fr:=(bP (segs.getD []) i).2.2.2.1.1,to:=(bP (segs.getD []) i).2.2.2.1.2,state:=(bP (segs.getD []) i).2.2.2.2.1,tp:=(tp i).1,tn:=(tp i).2.1,tc:=(tp i).2.2,oV:=⟨(bP (segs.getD []) i).2.2.2.2.2.2.1.toArray⟩,src:=(bP (segs.getD []) i).2.2.2.2.2.2.2.1,fl:=(bP (segs.getD []) i).2.2.2.2.2.2.2.2}) (λi=>(bP (segs.getD []) i).2.2.2.2.2.1) w a T (λh=>a.dp _ (G h).2) (a.dp _ hZdb) c0 rfl hm d0 d1 d2 c1 (λh=>(G h).1) E (λi hi=>B3 (hwf _ (by unfold bP;simp_all))) (.inr ⟨rfl,_,rfl⟩) (λk hk s wa hwa=>?hcall) (λi hi=>(o i hi).1) (λi hi=>(o i hi).2) azV (λx hx=>B3 (husw x hx)) Py hy).mono ?_;case hcall=>have H:(rb .i64 (bP (segs.getD []) k).2.2.1).wf=W:=B3 (hwf _ (by unfold bP;simp_all));have t:=Y k hk;have s:(bP (segs.getD []) k).2.1=(m:L):=s;have t:(!decide ((bP (segs.getD []) k).2.1=(m:L))||(sc (bP (segs.getD []) k).2.1&&(se (J l,segs,next,cont) k).isSome))=W:=t;rw[decide_eq_true s,Bool.not_true,Bool.false_or,ck]at t;let⟨U2,hsm⟩:=t;let⟨kk,hkk⟩:=Option.isSome_iff_exists.1 hsm;obtain⟨rfl,hzsb⟩:=G (by omega);have c3:w.cell? ⟨b,3,O⟩=J v3:=(by rw[qV]at e3;simp[er,B,e3]);have cc:w.cell? ⟨v,0,O⟩=J (.pointer (J ⟨b,0,O⟩)):=(by rw[qV]at ec;simp[er,hwc,ec]);have UU:(rb .i64 (bP (segs.getD []) k).2.1).wf=W:=B3 U2;rw[←s];have:=call46 a hwa (J l,segs,next,cont) T V (a.dp _ hzsb) cc c1 c3 r3 hk {id:=(bP (segs.getD []) k).1,doc:=(bP (segs.getD []) k).2.1,part:=(bP (segs.getD []) k).2.2.1,fr:=(bP (segs.getD []) k).2.2.2.1.1,to:=(bP (segs.getD []) k).2.2.2.1.2,state:=(bP (segs.getD []) k).2.2.2.2.1,tp:=(tp k).1,tn:=(tp k).2.1,tc:=(tp k).2.2,oV:=⟨(bP (segs.getD []) k).2.2.2.2.2.2.1.toArray⟩,src:=(bP (segs.getD []) k).2.2.2.2.2.2.2.1,fl:=(bP (segs.getD []) k).2.2.2.2.2.2.2.2} rfl rfl rfl rfl rfl (o k hk).1 (o k hk).2 hkk UU H;rw[hkk];exact this
      rintro e w' ⟨oU,Z2,rfl,⟨UW,UX,UY,UZ⟩,hD⟩;let⟨⟨A,ps'⟩,e'⟩:=y;refine⟨_,β,ω,Z2,rfl,aes a hok UW UX UY UZ rfl ?_ rfl ?_⟩;have:bO (λc u=>∃d,c=C.d d∧bA w' Z2 d u) (.tuple #[.agg #[.int .i64 A,oU],.int .i64 e']) (.bw [(W,[.d (.int .i64 A),.d (dN tP ps')]),(I,[.d (.int .i64 e')])]):=⟨_,rfl,⟨_,rfl,⟨_,rfl,rfl⟩,⟨_,rfl,hD⟩,trivial⟩,⟨_,rfl,rfl,_,rfl,rfl⟩,trivial⟩;cases ps'<;>exact this
      ·intro i cs g c N;match i,g with
       |0,g=>
        have g:[cE (.n .data mg (J l)),cE (.n .data mQ segs),C.d (.int .i64 next),cE (.l .ak (.cb W jk (.sl tI)) cont)]=cs:=ra g;subst g;simp only[jQ,List.not_mem_nil,or_false]at N;rcases N with rfl|rfl|rfl|rfl
        exact .inl rfl;rw[vu];exact .inl rfl;exact .inl rfl;exact .inl rfl
       |1,g=>have g:[C.aW (.aB 0) 0]=cs:=ra g;subst g;simp only[jQ,List.not_mem_nil,or_false]at N;subst N;exact .inl rfl|i+2,g=>have hlen:(jq aU (tV.fC ((m:L),J l,segs,next,cont))).length=2:=rfl;grind
     cases hy
   cases hy
  cases K
 cases K
def at5:lx prog 42 (tV.F λx=>y6 x.1 x.2):=qk Tryz.func42 (by kernel_rfl) rfl atZ
def aeW:cU:=tV.fD (by kernel_rfl) λx=>y6 x.1 x.2
def at6:dr prog (42,aeW):=at5
abbrev at7:{p:dT×cU // dr prog p}:=⟨(42,aeW),at6⟩
set_option maxRecDepth 100000
def U3:Bd:=gd func14 (sg [.bC fS,oI] [oS,oI]) (u2 F8) (fx 9 [4,5] 66039 [.aw 2,.aw 6,.aw 8,.cm 12 0]) [M7,at7,Tt,B46]
def B10:Bd:=gd func10 (sg [] [oB]) (λ_=>sf) (fx 14 [0] 16339 [.aw 1,.aw 4]) [Te,B37,B36,B38,U0,U3,U5,U7,B33,B32]
abbrev Gx:cU:=B10.1.2
def G10:dr prog (10,Gx):=B10.2
def F5:iF:={af:={N:=86,T:=T,R:=R,fD:=λ_ f=>oL f [(9,C9),(10,Gx),(11,Gy),(16,U6),(17,Wj),(18,U8),(12,U1)],var:=[0,1,2,3,4,5,6,7,8,9,10,11,12,13,14,15,16],res:=[4],eqs:=EQ,dat:=[2,3,4,5,6,7,8,9,10,11,12,13,14,15,16],nb:=W},keys:=[0,1,4,5,7,8,9,10,11,12,14,16,19,24,25,26,27,50,57,58,59,60,80],hI:=[.aw 5,.aw 16]}
def S5:bQ:={args:=[.one (.n .data (.int .i64)),.one (.i .i64)],aI:=[],res:=[.one .b],jg:=[],cH:=[]}
def L5:U→Q gJ:=λn=>match n with|0=>J {head:={live:=[5,24,25,26],fO:=[(.aw 5)],vs:=[.a6 26 (.i .i64)]},gq:=[(.ret,{live:=[4],fO:=[],vs:=[.a6 4 .b]}),(.exit 0,{live:=[],fO:=[],vs:=[]})]}|1=>J {head:={live:=[5,12,14,24,25,26,57,58,59],fO:=[(.aw 5)],vs:=[.a6 14 (.i .i64),.a6 59 (.i .i64)]},gq:=[(.ret,{live:=[4],fO:=[],vs:=[.a6 4 .b]}),(.exit 2,{live:=[5,24,25,26],fO:=[(.aw 5)],vs:=[]})]}|_=>O
set_option maxRecDepth 100000 in
def ayi:∀x,rS F5 L5 f5 S5 x=(λx=>Hl x.1 x.2) x:=by intro x;kernel_rfl
def fn5:iD prog 5 (S5.F (λx=>Hl x.1 x.2)):=tu (F:=F5) (tbl:=L5) func5 (by kernel_rfl) mix (vQ (l:=[(9,C9),(10,Gx),(11,Gy),(16,U6),(17,Wj),(18,U8),(12,U1)]) (pJ rfl rfl) rfl (gC.2 ⟨G9,gC.2 ⟨G10,gC.2 ⟨G11,gC.2 ⟨G16,gC.2 ⟨G17,gC.2 ⟨G18,gC.2 ⟨G12,by simp⟩⟩⟩⟩⟩⟩⟩)) (by kernel_rfl) (by kernel_rfl) (by decide) (λ_=>by kernel_rfl) ayi
end
end Go.Proofs.YtgbmhohlapmgbaaGreatDoor.vd
namespace Go.Proofs.YtgbmhohlapmgbaaGreatDoor.exportSpans
open Go Go.ChangeShapes Go.WideShapes Go.ChangeAt Go.RowKit Go.Vs Go.Ve Go.Fd Go.Proofs.YtgbmhohlapmgbaaGreatDoor.vd
def ak:ownKnob be.godebug=O:=by kernel_rfl
def B(H:Type):ql H where
 one:=rf
 all:=HR
 bh:=λ_=>by simp only[rf]
 slice:=λ_ _=>by simp only[rf]
 agg:=λ_=>by simp only[rf]
 pos:=λd=>by
  cases d with
  |lit l=>cases l<;>simp only[rf]<;>omega
  |_=>simp only[rf]<;>omega
 nil:=by simp only[HR]
 cons:=λ_ _=>by simp only[HR]
def Hg:M L:=[1,10,100,1000,10000,100000,1000000,10000000,100000000,1000000000,10000000000,100000000000,1000000000000,10000000000000,100000000000000,1000000000000000,10000000000000000,100000000000000000,1000000000000000000,10000000000000000000]
def Wb:ry be=[(1,Hg.map λz=>.int .u64 z)]:=by kernel_rfl
def Wc{a:bZ}(h:laidMetH be fH.laid a):∀g l,(g,l)∈ry be→g<a.heap.size∧oa a g l:=by rw[MakeChecks.laidMetH_plain _ _ _ (by kernel_rfl)]at h;have h1:oa a 1 (Hg.map λz=>.int .u64 z):=acd (n:= "internal/strconv.uint64pow10") (t:=372) (e:=299) (N:=20) h (fK (i:=2) (by kernel_rfl)) (by kernel_rfl) (by kernel_rfl) (by kernel_rfl) (by kernel_rfl) (by kernel_rfl) (by kernel_rfl) (by kernel_rfl);intro g l b;rw[Wb,m7]at b;cases b;exact⟨ace h1 (v:=.int .u64 1) rfl,h1⟩
def Wd:sM be=[0]:=by kernel_rfl
def Wg{a:bZ}(h:a.ShapedOpen be):∀g,g∈sM be→g<a.heap.size∧uN a g:=by intro g b;rw[Wd,m7]at b;subst b;exact acf (t:=3) (zero:=#[.int .i64 0]) h (wY (by kernel_rfl)) (by kernel_rfl) rfl (by kernel_rfl) (by kernel_rfl) (by kernel_rfl)
set_option maxRecDepth 100000 in
def contract(H:Type)(enc:bq×aJ→H)(a:bZ)(base:U)(args:bW aJ)(ds f:M (jo H))(b:M MemPlace) (d:∀(j:U)t v,gQ.params[j]?=J t→args[j]?=J v→Value.okWide be a .any base t v) (i:DataW.Whole enc be gQ.params.toList lj.vars I a args.toList ds f b)(hk:Rows.uptoSmall H (ds++f)=W)(k:laidMetH be fH.laid a)(o:a.ShapedOpen be):ez be 5 args a λe W'=>∃v,e=.returned v∧lj.post enc be gQ I W I I a args v W':=
 ab7 (af:=F5.af.c) (l:=S5.args) (n:=20) (m:=1048576) (ts:=gQ.params.toList) (sp:=lj) (by kernel_rfl) fn5 (pJ rfl rfl) rfl rfl (tb:=4) (by kernel_rfl) (by kernel_rfl)
  (by kernel_rfl) (by
    intro t g
    exact gy.1 (by kernel_rfl:gQ.params.toList.all (λt=>oq F5.af.c 20 t)=W) t g) (by kernel_rfl)
  (by
    intro t g
    have:=gy.1 (by kernel_rfl:gQ.params.toList.all (λt=>be.readableRec t&&Nat.blt t be.types.size)=W) t g
    rw[ck,Nat.blt_eq]at this
    exact this) (B H) (uy (Rv (B H) ds f) (jr hk))
  (λx p q=>⟨x,rfl,ayz x.1 x.2⟩)
  (λds h=>by
    match ds,h with|[d1,d2],_=>rfl)
  ⟨(Wc k),(Wg o)⟩ d i
def Wh:jo Unit→M aJ
 |.lit l=>[l.value]|.agg ps=>ps.flatMap λd=>match d with|.lit l=>[l.value]|_=>[]
 |_=>[]
def qR:jo Unit→M aJ|.agg ps=>ps.flatMap Wh|_=>[]
def qS(cs:M aJ):Obj→Obj|.cells _ t frozen=>.cells cs.toArray t frozen|o=>o
noncomputable def zE(os:Os):bZ:={WJ be os ⟨#[], #[],[]⟩with heap:=((((((WJ be os ⟨#[], #[],[]⟩).heap.modify 4 (qS (qR Rows.laid_math_bits_deBruijn32tab))).modify 5 (qS (qR Rows.laid_math_bits_deBruijn64tab))).modify 1 (qS (qR Rows.laid_internal_strconv_uint64pow10))).modify 3 (qS (qR Rows.laid_unicode_utf8_acceptRanges))).modify 2 (qS (qR Rows.laid_unicode_utf8_first)))}
def Wi(os:Os):laidMet be fH.laid ((zE os).forCall (λ_ _=>0) ⟨#[], #[.slice O 0 0,.int .i64 0],[]⟩).memory:=laidMet_of_run' 300 (by kernel_rfl) (by kernel_rfl)
def reads(os:Os){H:Type}(enc:bq×aJ→H):∃places,DataW.whole enc be ((zE os).forCall (λ_ _=>0) ⟨#[], #[.slice O 0 0,.int .i64 0],[]⟩).memory gQ.params.toList lj.vars I (#[.slice O 0 0,.int .i64 0]:bW aJ).toList 8=J ([.nil,.lit (.int .i64 0)],[],places):=⟨[],by kernel_rfl⟩
set_option maxRecDepth 100000 in
def lifted(os:Os)(b:os.Started)(H:Type)(enc:bq×aJ→H)(F:Stop.Interp):
  ReturnsInHanded {} HS os 5 .any ((ig lj).preRow enc be gQ fH.domain I fH.laid) (((ig lj).at F).post enc be gQ I W I I):=by
 obtain⟨places,f⟩:=reads os enc
 refine returnsInHanded_of_row (C:=HS) (s:=ig lj) ak b (by kernel_rfl) ahW
  (witness_row_at (enc:=enc) (C:=HS) I (zE os) #[.slice O 0 0,.int .i64 0] rfl (by kernel_rfl) (by kernel_rfl) (by kernel_rfl)
    (OpenSpec.preRow_of_cond 8 f (by kernel_rfl) (λk hk=>by cases hk;kernel_rfl) (by kernel_rfl) (Wi os))) ?_
 intro a base args ds g c e h _ d _ i j _
 exact contract H enc a base args ds g c e h (d _ rfl) i j
def over:fH.holds kP (ig lj):=OpenClaim.holds_of_cond 5 gQ rfl rfl rfl rfl rfl rfl rfl ⟨rfl,rfl,rfl,rfl,rfl⟩ rfl rfl rfl rfl rfl h1 ahW closed h2 h3 (λos a H b _ F=>by rw[OpenClaim.pre_eq_preRow];exact lifted os a H b F)
def plain(f:dT)(fn:Func)(b:kP.checked.prog.funcNamed "bitext/bitextlaw35.ExportSpans" =J f)(a:kP.checked.prog.funcs[f]?=J fn):W=kP.checked.prog.looks []∧∀(j:U)t,fn.params[j]?=J t→kP.checked.prog.wantsStandIn t=I:=by obtain rfl:f=5:=ra ((show be.funcNamed "bitext/bitextlaw35.ExportSpans" =J 5 from h1).symm.trans b)|>.symm;obtain rfl:fn=gQ:=(ra (ahW.symm.trans a)).symm;refine⟨by kernel_rfl,λj t c=>?_⟩;have d:t∈gQ.params.toList:=Array.mem_toList_iff.2 (Array.mem_of_getElem? c);have:=gy.1 (by kernel_rfl:gQ.params.toList.all (λt=> !be.wantsStandIn t)=W) t d;show be.wantsStandIn t=I;simpa using this
theorem proved:Rows.ExportSpansUptoCardSaid:=Claim7.holds_tied_plain_at .later [] _ _ (W,"6419a547cb5836e536c90ec6741d6b42776b1268389dc43d936a11af80ff430a") _ over (λ_ h=>by cases h) hwf (λ_ h=>by cases h) exportSpansUpto_row_tie rfl ⟨rfl,rfl⟩ hmain rfl plain hgoes
end Go.Proofs.YtgbmhohlapmgbaaGreatDoor.exportSpans
#print axioms Go.Proofs.YtgbmhohlapmgbaaGreatDoor.exportSpans.proved
