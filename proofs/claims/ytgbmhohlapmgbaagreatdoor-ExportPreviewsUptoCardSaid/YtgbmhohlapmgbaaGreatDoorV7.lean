/- The statement ExportPreviewsUptoCardSaid of the given program is proved here: for every input whose bulk is at most the bound of its row, the law returns true and changes nothing. Part 7 of 7. -/
import Derived.Test.YtgbmhohlapmgbaaGreatDoorProg
import Derived.KernelRfl
import Derived.Shelf.Strings.Builder1
import Derived.Shelf.Strings.Search3
import Derived.Shelf.LaysM
import Derived.Shelf.Strconv.Itoa3
import Derived.Shelf.Strings.SlTrimAscii
import Derived.Shelf.Sort.Plain
import Derived.Shelf.Slices.In.SortNone
import Derived.Shelf.Strings.Count
import Derived.WalkKit
import Derived.BigCall
import Derived.Lib.Bytealg
import Derived.Laws.Externs
import Derived.Laws.MakeOwn
import Derived.Laws.OwnMore
import Derived.Deep.WholeRow
import Derived.Lib.BufferMore
import Derived.Laws.IdiomStrings
import Derived.Lib.ConvBytes
import Derived.RegionTactic
import Derived.Lib.LazyBuf
import Derived.ChangeAlike
import Derived.Defers
import Derived.Laws.Pointers
import Derived.Laws.LoneSync
import Derived.RegionCalls
import Derived.Laws.NewBlocks
import Derived.Handy
import Derived.Maps.OwnRows
import Derived.Maps.Views
import Derived.BigRegion
import Derived.Deep.RegionWith
import Derived.Test.YtgbmhohlapmgbaaGreatDoorCards
import Derived.Test.YtgbmhohlapmgbaaGreatDoorTie
import Derived.Deep.DeepHandedRow
import Derived.MakeChecks
import Derived.Test.YtgbmhohlapmgbaaGreatDoorV6
set_option linter.unusedVariables false
set_option linter.unusedSimpArgs false
set_option linter.unusedSectionVars false
set_option linter.constructorNameAsVariable false
set_option linter.defProp false
open Array renaming getD_eq_getD_getElem?->Fa,getElem?_eq_some_iff->oa,getElem?_push_size->LZ,getElem?_setIfInBounds_ne->LY,getElem?_setIfInBounds_self_of_lt->aeT,getElem?_toList->oc
open Bool renaming and_eq_true->bG,false->I,or_eq_true->pw,true->W
open ByteArray renaming getElem_eq_getElem_data->aws,mk->kh,size->Av
open Go renaming Addr->dt,Calls->dw,DataW->iN,FuncId->cY,TypeId->aW,Value->az,World->bD,run_convert_to_unsafe->awt,run_neq_slice_nil->TL,run_underlying->jF
open Go.Builtin renaming nextslicecap->xR
open Go.Extern.AbiNoEscape renaming same->axG
open Go.Extern.BytealgIndexByte renaming indexByte->axH
open Go.Instr renaming lookup->uN
open Go.IntKind renaming i64->aO,signed->Fc
open Go.Lib renaming BuilderAt->TE,IsBuilder->uU,alloc_old->Fs,byteCells->LV,bytesWorld->TJ,bytesWorld_at_old->awo,cell_of_heap->TF,fresh_isBuilder->awm,indexByte->dW
open Go.Lit renaming int->pz
open Go.Maps renaming keyOf_int_mk->awx
open Go.Obj renaming cells->nj,map->AF
open Go.Oper renaming upon_value->nh
open Go.Proofs renaming intOf->aaT
open Go.Proofs.Tryz renaming checked->aeZ,f4->aaH,func4->ao7,prog->a7,t9->aww,underlying130->TM,underlying131->TN,underlying134->TC,underlying135->oi,underlying251->TD,underlying3->uS,underlying375->awu,underlying5->uT,underlying9->r7,zeroCells342->AC
open Go.Proofs.YtgbmhohlapmgbaaGreatDoor.Rows renaming exportPreviewsSpec->aaK,exportPreviewsUptoRow->aae,uptoBulk->Fz,uptoBulkAll->aeY
open Go.Proofs.YtgbmhohlapmgbaaGreatDoor.Rows.OpenSpec renaming upto->me
open Go.Proofs.YtgbmhohlapmgbaaGreatDoor.Tryz renaming pinned->rZ
open Go.Result renaming andThen->oj,andThen_ok->cO
open Go.RowKit renaming Below->cn
open Go.RowKit.Below renaming heap_alloc->Ft,refl->lv
open Go.Sem renaming run_bind->cL,run_pure->ek
open Go.Shelf renaming Ren->Fq
open Go.Sort renaming ahead->LW
open Go.Value renaming int->l9,ownBlock->LX,slice->qH,string->LR
open Go.World renaming cell?->dm,cell?_alloc_past->L0,cell?_setCell_other->awv,frozen?->lw,grownBy_alloc->Fu,holding->afU,size_setCell->AE
open Int renaming eq_ofNat_of_zero_le->oq
open List renaming all_eq_true->fO,concat_eq_append->awn,flatMap_append->uW,forall_mem_cons->gH,getD_eq_getElem?_getD->iy,getElem?_append_left->og,getElem?_append_right->Ax,getElem?_eq_getElem->du,getElem?_eq_some_iff->gi,getElem?_map->gj,getElem?_toArray->Fj,length->uO,length_append->lr,length_map->jf,map->gV,map_append->px,map_cons->dO,mem_cons->iA,mem_iff_getElem->awq,mem_map->kH,mem_of_find?_eq_some->awp,mem_of_getElem?->eA,mem_singleton->ng,nodup_cons->xV,range->hY,range_succ->aaN,replicate->dk,take_add_one->TG,take_append_drop->l7,take_length->xS,take_of_length_le->aeJ
open List.cons renaming injEq->xQ
open Nat renaming ble->fi,le_of_ble_eq_true->xX,le_refl->dD,le_succ->aeS,le_trans->uV,lt_of_lt_of_le->om,lt_or_ge->gW,zero_le->fm
open Option renaming getD->TH,getD_some->eB,map_eq_some_iff->oh,none->O,some->J
open Option.some renaming inj->qG,injEq->kI
open _root_ renaming Array->bv,Bool->ao,ByteArray->mc,Int->M,List->L,Nat->U,Option->Q,UInt8->ai,absurd->bX,beq_iff_eq->cT,congrArg->bz,decide_eq_true_eq->eh,if_neg->aK,if_pos->ax,of_decide_eq_true->iB
namespace Go.Proofs.YtgbmhohlapmgbaaGreatDoor.vd
noncomputable section
open Go Go.Vs Go.Ve
abbrev gQ:Ty:=(.pair (.int .i64) (.int .i64))
abbrev aT:Ty:=(.pair (.int .i64) (.pair .str (.int .i64)))
abbrev lS:Ty:=(.sl aT)
abbrev KE:Ty:=(.pair (.int .i64) .bool)
abbrev alI:Ty:=(.pair (.int .i64) (.pair lS (.pair .str KE)))
abbrev alJ:Ty:=(.pair gQ alI)
abbrev alK:Ty:=(.pair (.int .i64) alJ)
abbrev alL:Ty:=(.pair (.int .i64) alK)
abbrev dT:Ty:=(.pair (.int .i64) alL)
abbrev alM:Ty:=(.pair (.int .u8) (.pair (.int .u8) (.int .u8)))
abbrev alN:Ty:=(.pair (.int .u8) alM)
abbrev alO:Ty:=(.pair (.int .u8) alN)
abbrev alP:Ty:=(.pair (.int .u8) alO)
abbrev alQ:Ty:=(.pair (.int .u8) alP)
abbrev alR:Ty:=(.pair (.int .u8) alQ)
abbrev alS:Ty:=(.pair (.int .u8) alR)
abbrev alT:Ty:=(.pair (.int .u8) alS)
abbrev rJ:Ty:=(.pair (.int .u8) alT)
abbrev alU:Ty:=(.pair (.int .u8) rJ)
abbrev alV:Ty:=(.pair (.int .u8) alU)
abbrev alW:Ty:=(.pair (.int .u8) alV)
abbrev uq:Ty:=(.pair (.int .u8) alW)
abbrev alZ:Ty:=(.pair (.int .u8) uq)
abbrev al0:Ty:=(.pair (.int .u8) alZ)
abbrev al1:Ty:=(.pair (.int .u8) al0)
abbrev al2:Ty:=(.pair (.int .u8) al1)
abbrev al3:Ty:=(.pair (.int .u8) al2)
abbrev al4:Ty:=(.pair (.int .u8) al3)
abbrev al5:Ty:=(.pair (.int .u8) al4)
abbrev al6:Ty:=(.pair (.int .u8) al5)
abbrev al7:Ty:=(.pair (.int .u8) al6)
abbrev al8:Ty:=(.pair (.int .u8) al7)
abbrev al9:Ty:=(.pair (.int .u8) al8)
abbrev ama:Ty:=(.pair (.int .u8) al9)
abbrev amb:Ty:=(.pair (.int .u8) ama)
abbrev amc:Ty:=(.pair (.int .u8) amb)
abbrev ty9:Ty:=(.pair (.int .u8) amc)
abbrev ty8:Ty:=(.pair (.int .u8) ty9)
abbrev P5:Ty:=(.pair (.int .u8) ty8)
abbrev cG:Ty:=(.pair .bool (.pair .str .str))
abbrev cW:Ty:=(.pair (.int .i64) (.sl cG))
abbrev eM:Ty:=(.pair (.sl cW) (.pair (.sl dT) (.int .i64)))
abbrev alX:Ty:=(.pair P5 KE)
abbrev xp:Ty:=(.pair .bool (.pair (.sl alX) (.sl alX)))
abbrev Ek:Ty:=(.sl (.int .i64))
abbrev pd:Ty:=(.pair Ek (.int .i64))
abbrev mU:Ty:=(.bB W gQ lS)
abbrev alY:Ty:=(.pair (.int .i64) gQ)
abbrev P6:Ty:=(.pair lS (.pair (.sl (.int .u8)) Ek))
abbrev El:Ty:=(.bB I aT (.int .i64))
abbrev KF:Ty:=(.bB I (.int .i64) lS)
abbrev ZF:Ty:=(.pair .str (.pair .str (.pair .str (.pair .str .str))))
abbrev P7:Ty:=(.bB I (.int .i64) (.int .i64))
abbrev ZG:Ty:=(.bB I (.int .i64) .bool)
abbrev P8:Ty:=(.set (.int .i64))
open Go.Proofs.Tryz
def T:L (aW×TI):=[(3,⟨1,8,.int .i64,(J [.int .i64 0])⟩),(4,⟨1,1,.bool,(J [.bool I])⟩),(5,⟨1,1,.int .u8,(J [.int .u8 0])⟩),(9,⟨1,16,.str,(J [.str []])⟩),(21,⟨1,4,.int .i32,(J [.int .i32 0])⟩),(22,⟨1,24,.slice 3,(J [.nil])⟩),(25,⟨1,24,.slice 48,(J [.nil])⟩),(26,⟨1,24,.slice 44,(J [.nil])⟩),(28,⟨3,56,.struct [(0,25),(1,26),(2,3)],(J [.nil,.nil,.int .i64 0])⟩),(30,⟨1,8,.int .i64,(J [.int .i64 0])⟩),(34,⟨1,24,.slice 39,(J [.nil])⟩),(39,⟨3,24,.struct [(0,3),(1,3),(2,3)],(J [.int .i64 0,.int .i64 0,.int .i64 0])⟩),(41,⟨2,16,.struct [(0,3),(1,3)],(J [.int .i64 0,.int .i64 0])⟩),(42,⟨1,24,.slice 77,(J [.nil])⟩),(44,⟨10,104,.struct [(0,3),(1,3),(2,3),(3,41),(5,3),(6,42),(7,9),(8,3),(9,4)],(J [.int .i64 0,.int .i64 0,.int .i64 0,.int .i64 0,.int .i64 0,.int .i64 0,.nil,.str [],.int .i64 0,.bool I])⟩),(46,⟨1,24,.slice 59,(J [.nil])⟩),(48,⟨2,32,.struct [(0,3),(1,46)],(J [.int .i64 0,.nil])⟩),(50,⟨1,24,.slice 9,(J [.nil])⟩),(59,⟨3,40,.struct [(0,4),(1,9),(2,9)],(J [.bool I,.str [],.str []])⟩),(70,⟨1,24,.slice 22,(J [.nil])⟩),(73,⟨1,24,.slice 120,(J [.nil])⟩),(77,⟨3,32,.struct [(0,3),(1,9),(2,3)],(J [.int .i64 0,.str [],.int .i64 0])⟩),(79,⟨1,8,.ptr 128,(J [.ck .ptr])⟩),(81,⟨1,8,.ptr 91,(J [.ck .ptr])⟩),(86,⟨1,8,.func,(J [.ck .func])⟩),(89,⟨1,8,.map 180 42,(J [.ck .map])⟩),(91,⟨4,64,.struct [(0,28),(3,89)],(J [.nil,.nil,.int .i64 0,.ck .map])⟩),(113,⟨1,24,.slice 41,(J [.nil])⟩),(115,⟨32,32,.array 32 5,(J (dk 32 (.int .u8 0)))⟩),(117,⟨34,48,.struct [(0,115),(32,3),(33,4)],(J [.int .u8 0,.int .u8 0,.int .u8 0,.int .u8 0,.int .u8 0,.int .u8 0,.int .u8 0,.int .u8 0,.int .u8 0,.int .u8 0,.int .u8 0,.int .u8 0,.int .u8 0,.int .u8 0,.int .u8 0,.int .u8 0,.int .u8 0,.int .u8 0,.int .u8 0,.int .u8 0,.int .u8 0,.int .u8 0,.int .u8 0,.int .u8 0,.int .u8 0,.int .u8 0,.int .u8 0,.int .u8 0,.int .u8 0,.int .u8 0,.int .u8 0,.int .u8 0,.int .i64 0,.bool I])⟩),(118,⟨1,24,.slice 117,(J [.nil])⟩),(120,⟨3,56,.struct [(0,4),(1,118),(2,118)],(J [.bool I,.nil,.nil])⟩),(128,⟨2,32,.struct [(0,22),(1,3)],(J [.nil,.int .i64 0])⟩),(130,⟨1,8,.map 3 113,(J [.ck .map])⟩),(131,⟨1,8,.map 3 132,(J [.ck .map])⟩),(132,⟨1,24,.slice 42,(J [.nil])⟩),(134,⟨1,8,.ptr 137,(J [.ck .ptr])⟩),(135,⟨1,24,.slice 5,(J [.nil])⟩),(137,⟨2,32,.struct [(0,134),(1,135)],(J [.ck .ptr,.nil])⟩),(146,⟨1,8,.map 77 3,(J [.ck .map])⟩),(158,⟨1,8,.map 3 4,(J [.ck .map])⟩),(159,⟨1,8,.map 3 3,(J [.ck .map])⟩),(177,⟨1,8,.map 3 42,(J [.ck .map])⟩),(180,⟨2,16,.struct [(0,3),(1,3)],(J [.int .i64 0,.int .i64 0])⟩),(181,⟨1,8,.map 3 183,(J [.ck .map])⟩),(183,⟨0,0,.struct [],(J [])⟩),(190,⟨1,8,.ptr 196,(J [.ck .ptr])⟩),(194,⟨3,72,.struct [(0,42),(1,135),(2,22)],(J [.nil,.nil,.nil])⟩),(196,⟨5,104,.struct [(0,194),(3,42),(4,3)],(J [.nil,.nil,.nil,.nil,.int .i64 0])⟩),(197,⟨1,8,.ptr 201,(J [.ck .ptr])⟩),(201,⟨5,88,.struct [(0,194),(3,3),(4,3)],(J [.nil,.nil,.nil,.int .i64 0,.int .i64 0])⟩),(202,⟨1,8,.ptr 194,(J [.ck .ptr])⟩),(205,⟨1,8,.ptr 273,(J [.ck .ptr])⟩),(208,⟨1,8,.ptr 281,(J [.ck .ptr])⟩),(216,⟨1,8,.map 9 4,(J [.ck .map])⟩),(220,⟨1,8,.ptr 222,(J [.ck .ptr])⟩),(222,⟨6,56,.struct [(0,9),(1,208),(2,3),(3,3),(4,3),(5,3)],(J [.str [],.ck .ptr,.int .i64 0,.int .i64 0,.int .i64 0,.int .i64 0])⟩),(228,⟨1,8,.ptr 230,(J [.ck .ptr])⟩),(230,⟨3,48,.struct [(0,9),(1,46),(2,3)],(J [.str [],.nil,.int .i64 0])⟩),(255,⟨1,8,.int .u64,(J [.int .u64 0])⟩),(259,⟨0,0,.struct [],(J [])⟩),(260,⟨0,0,.struct [],(J [])⟩),(261,⟨1,4,.int .u32,(J [.int .u32 0])⟩),(263,⟨1,4,.struct [(0,260),(0,261)],(J [.int .u32 0])⟩),(265,⟨2,8,.struct [(0,21),(1,261)],(J [.int .i32 0,.int .u32 0])⟩),(267,⟨2,8,.struct [(0,259),(0,265)],(J [.int .i32 0,.int .u32 0])⟩),(269,⟨3,12,.struct [(0,259),(0,263),(1,267)],(J [.int .u32 0,.int .i32 0,.int .u32 0])⟩),(271,⟨1,16,.iface,(J [.ck .iface])⟩),(273,⟨5,56,.struct [(0,269),(3,271),(4,50)],(J [.int .u32 0,.int .i32 0,.int .u32 0,.ck .iface,.nil])⟩),(277,⟨5,80,.array 5 9,(J [.str [],.str [],.str [],.str [],.str []])⟩),(279,⟨6,96,.array 6 9,(J [.str [],.str [],.str [],.str [],.str [],.str []])⟩),(281,⟨3,48,.struct [(0,9),(1,3),(2,46)],(J [.str [],.int .i64 0,.nil])⟩),(319,⟨1,24,.slice 4,(J [.nil])⟩)]
def R:L (aW×Ty):=[(3,(.int .i64)),(4,.bool),(5,(.int .u8)),(9,.str),(21,(.int .i32)),(22,Ek),(25,(.sl cW)),(26,(.sl dT)),(28,eM),(30,(.int .i64)),(34,(.sl alY)),(39,alY),(41,gQ),(42,lS),(44,dT),(46,(.sl cG)),(48,cW),(50,(.sl .str)),(59,cG),(70,(.sl Ek)),(73,(.sl xp)),(77,aT),(89,mU),(91,(.pair eM (.sl mU))),(113,(.sl gQ)),(115,P5),(117,alX),(118,(.sl alX)),(120,xp),(128,pd),(130,(.bB I (.int .i64) (.sl gQ))),(131,(.bB I (.int .i64) (.sl lS))),(132,(.sl lS)),(135,(.sl (.int .u8))),(146,El),(158,ZG),(159,P7),(177,KF),(180,gQ),(181,P8),(194,P6),(196,(.pair P6 (.pair lS (.int .i64)))),(201,(.pair P6 gQ)),(216,(.bB I .str .bool)),(230,(.pair .str (.pair (.sl cG) (.int .i64)))),(255,(.int .u64)),(261,(.int .u32)),(265,(.pair (.int .i32) (.int .u32))),(277,ZF),(279,(.pair .str ZF)),(281,(.pair .str cW)),(319,(.sl .bool))]
def pe{α:Type}(p:α→Prop):L α→Prop|[]=>True|a::r=>p a∧pe p r
def pe.mem{α:Type}{p:α→Prop}:∀{l:L α},pe p l→∀x∈l,p x|_::_,h,_,.head _=>h.1|_::_,h,_,.tail _ a=>pe.mem h.2 _ a
set_option maxRecDepth 100000 in
def ZH{α β:Type}{f g:α→β}:∀{l:L α},l.map f=l.map g→pe (λx=>f x=g x) l|[],_=>trivial|_::_,h=>by simp only[dO,xQ]at h;exact⟨h.1,ZH h.2⟩
set_option maxRecDepth 100000 in
def amf:pe (λx=>jt prog x.1=J x.2) T:=ZH (by show T.map _=T.map _;kernel_rfl)
def KG{α:Type}{t:U}{v:α}:∀{l:L (U×α)},lk t l=J v→(t,v)∈l|(u,w)::l,h=>by unfold lk at h;split at h;rename_i e;cases h;subst e;simp;exact List.mem_cons_of_mem _ (KG h)
def EQ:L (aW×L Sc):=[(39,[.int .i64,.int .i64,.int .i64]),(41,[.int .i64,.int .i64]),(59,[.bool,.str,.str]),(77,[.int .i64,.str,.int .i64]),(180,[.int .i64,.int .i64])]
def amg:pe (λx=>Bf prog x.1 x.2) EQ:=⟨Ej (by kernel_rfl) (by kernel_rfl) (by kernel_rfl) (by kernel_rfl),Ej (by kernel_rfl) (by kernel_rfl) (by kernel_rfl) (by kernel_rfl),Ej (by kernel_rfl) (by kernel_rfl) (by kernel_rfl) (by kernel_rfl),Ej (by kernel_rfl) (by kernel_rfl) (by kernel_rfl) (by kernel_rfl),Ej (by kernel_rfl) (by kernel_rfl) (by kernel_rfl) (by kernel_rfl),trivial⟩
def GT:L (U×L M):=[(1,[1,10,100,1000,10000,100000,1000000,10000000,100000000,1000000000,10000000000,100000000000,1000000000000,10000000000000,100000000000000,1000000000000000,10000000000000000,100000000000000000,1000000000000000000,10000000000000000000])]
set_option maxRecDepth 100000 in
def ZI:pe (λx=>(x.1,x.2.map λn=>l9 .u64 n)∈su prog) GT:=⟨eA (i:=0) (by kernel_rfl),trivial⟩
def qw{cfg:bg}(h:cfg.T=T)(a:(cfg.eqs==[]||cfg.eqs==EQ)=W)(b:(cfg.qJ==[]||cfg.qJ==GT)=W:=by rfl):fT prog cfg:=
 ⟨λt i hi=>pe.mem amf (t,i) (KG (by rw[←h];exact hi)),λt sh c=>by
  rw[pw,cT,cT]at a
  rcases a with a|a
  rw[a]at c;cases c
  rw[a]at c;exact pe.mem amg (t,sh) (KG c),λg l d=>by
  rw[pw,cT,cT]at b
  rcases b with b|b
  rw[b]at d;cases d
  rw[b]at d;exact pe.mem ZI (g,l) (KG d)⟩
def mix:prog.follows .mixedOrders=W:=by kernel_rfl
structure Fx where
 v:List Nat
 r:List Nat
 k:Nat
 b:List Key
 nd:List Nat:=[]
 od:Bool:=true
 bx:Bool:=false
 un:List Nat:=[]
 gt:List (Nat×List Int):=[]
def bt(n:U):L U:=(hY (n.log2+1)).filter n.testBit
def fx(v:U)(r:L U)(k:U)(b:L Key:=[]):Fx:={v:=hY v,r:=r,k:=k,b:=b}
def fy(v:U)(w r:L U)(k:U)(b:L Key:=[]):Fx:={v:=hY v++w,r:=r,k:=k,b:=b}
abbrev sg(a r:L It)(b:L It:=[])(q:L (L (Q Sh)):=[]):bm:=⟨a,b,r,q,[],I⟩
abbrev u2{α β γ:Type}(f:α→β→γ)(x:α×β):γ:=f x.1 x.2
abbrev u3{α β a δ:Type}(f:α→β→a→δ)(x:α×β×a):δ:=f x.1 x.2.1 x.2.2
abbrev u4{α β a b ε:Type}(f:α→β→a→b→ε)(x:α×β×a×b):ε:=f x.1 x.2.1 x.2.2.1 x.2.2.2
def Fx.F(X:Fx)(fn:Func)(l:L (cY×cw))(s:L (U×cY×cw)):gq:={cfg:={N:=fn.ntmps,T:=T,R:=R,eu:=λt f=>Cs t f l s,var:=X.v,res:=X.r,eqs:=EQ,dat:=X.v.filter λu=>fi fn.params.size u&& !X.nd.contains u,mh:=X.od,pE:=X.bx,un:=X.un,qJ:=X.gt},keys:=bt X.k,fQ:=X.b}
abbrev Bd:={p:cY×cw // cM prog p}
abbrev oI:It:=.one (.i .i64)
abbrev oS:It:=.one .s
abbrev oB:It:=.one .b
abbrev oN:It:=.one (.n .data (.int .i64))
abbrev iI:Sh:=.i .i64
abbrev sI(n:U):Pl:=.slot n (.i .i64)
def ll(l:L fD)(n:U):Q fD:=l[n]?
def gl1(l:L Bd):∀x∈l.map (·.1),cM prog x:=by intro x h;obtain⟨y,_,rfl⟩:=kH.1 h;exact y.2
def gs1(l:L (U×Bd)):∀x∈l.map (λp=>(p.1,p.2.1)),cM prog x.2:=by intro x h;obtain⟨y,_,rfl⟩:=kH.1 h;exact y.2.2
def gd{n:cY}{fn:Func}(c:prog.funcs[n]?=J fn)(S:bm)(sh:S.X→Q S.Y)(X:Fx)(l:L Bd:=[])(a:U→Q fD:=λ_=>O)(s:L (U×Bd):=[]) (d:(S.ok&&(zj fn&& !(fn.name== "runtime.NumGoroutine")&&fi S.args.length fn.ntmps&&(X.gt==[]||X.gt==GT)))=W:=by kernel_rfl) (run:∀x,(kR (S.dG x) (iE S.boxes.length) X.b,rm (X.F fn (l.map (·.1)) (s.map λp=>(p.1,p.2.1))) a fn S x)=(W,sh x):=by intro _;kernel_rfl):Bd:=⟨(n,S.eu (bG _ _▸d:S.ok=W∧_).1 sh),by have e:=d;simp only[bG,Bool.not_eq_true']at e;let⟨h,⟨⟨h1,h2⟩,h3⟩,f⟩:=e;exact wH c h2 h1 (tJ (F:=X.F fn (l.map (·.1)) (s.map λp=>(p.1,p.2.1))) (tbl:=a) c h1 mix (akz (l:=l.map (·.1)) (s:=s.map λp=>(p.1,p.2.1)) (qw rfl (by show(EQ==[]||EQ==EQ)=W;kernel_rfl) f) rfl (gl1 l) (gs1 s)) rfl h (xX h3) (λx=>bz Prod.fst (run x)) λx=>bz Prod.snd (run x))⟩
open Go.Fd
set_option maxRecDepth 100000
def B9:Bd:=gd func9 (sg [.one (.n .data Ek)] [oB]) Ki (fx 6 [2] 1005) [] (ll [⟨⟨[3,6,7,8],[],[sI 3,sI 8]⟩,[(.exit 0,⟨[3],[],[sI 3]⟩)],O⟩])
abbrev C9:cw:=B9.1.2
def G9:cM prog (9,C9):=B9.2
def P9:Bd:=gd func69 (sg [oI] [oB]) rz (fx 3 [2] 5)
def KH:Bd:=gd func172 (sg [oS,oS] [oB]) (u2 lO) (fx 5 [4] 19)
def ZJ:Bd:=gd func173 (sg [oS,oS,oI] [oI]) (u3 ry) (fx 8 [6] 67141831) [] (ll [⟨⟨[0,1,7],[],[sI 7]⟩,[(.ret,⟨[6],[],[sI 6]⟩),(.exit 0,⟨[],[],[]⟩)],O⟩])
def Em:Bd:=gd func157 (sg [oS] [oB]) qk (fx 5 [2] 8796093091869) [] (ll [⟨⟨[0,3],[],[sI 3]⟩,[(.ret,⟨[2],[],[.slot 2 .b]⟩),(.exit 0,⟨[],[],[]⟩)],O⟩])
def Aa:Bd:=gd func55 (sg [oS] [oS]) o7 (fx 4 [2] 8333) [] (ll [⟨⟨[0,3],[],[sI 3]⟩,[(.ret,⟨[2],[],[.slot 2 .s]⟩),(.exit 0,⟨[0],[],[]⟩)],O⟩])
def ZK:Bd:=gd func158 (sg [oS] [oB]) CJ (fx 6 [2] 549755818301) [Aa,Em] (ll [⟨⟨[0,3],[],[sI 3]⟩,[(.ret,⟨[2],[],[.slot 2 .b]⟩),(.exit 0,⟨[0],[],[]⟩)],O⟩])
def ZL:Bd:=gd func174 (sg [oS] [.row aT,oI]) CK (fy 0 [0,1,3,4,5,6,15,20] [2,3] 4503599628452989 [.loc 2]) [ZJ,KH,Em,ZK]
def Qa:Bd:=gd func54 (sg [oS] [oB]) zw (fx 3 [2] 5)
def Qb:Bd:=gd func211 (sg [.one (.i .u8)] [.row aT]) mR (fx 2 [2] 5 [.loc 2])
def Qc:Bd:=gd func212 (sg [oS] [.row aT,oI]) zx (fy 0 [0,1,3,4] [2,3] 8654877 [.loc 2]) [Em] (ll [⟨⟨[0,2,4],[(.loc 2)],[sI 4]⟩,[(.ret,⟨[2,3],[(.loc 2)],[sI 3,.cell (.loc 2) 0 iI,.cell (.loc 2) 1 .s,.cell (.loc 2) 2 iI]⟩),(.exit 0,⟨[2],[(.loc 2)],[]⟩)],O⟩])
def amj:Bd:=gd func153 (sg [oS] [.row aT,oI]) IY (fy 0 [0,1,3,4,5,6,7,8,11,29,50] [2,3] 1130313556168125 [.loc 2,.loc 4]) [ZL,Aa,Qa,KH,Qb,Qc] (ll [⟨⟨[0,2,31,32],[(.loc 2)],[sI 32]⟩,[(.ret,⟨[2,3],[(.loc 2)],[sI 3,.cell (.loc 2) 0 iI,.cell (.loc 2) 1 .s,.cell (.loc 2) 2 iI]⟩),(.exit 1,⟨[2],[(.loc 2)],[]⟩)],O⟩])
def amk:Bd:=gd func154 (sg [oS] [.row aT,oI]) tU (fy 0 [0,1,3,4,5,6,9,12,18] [2,3] 72058148210611053 [.loc 2]) [Qc,Qb] (ll [⟨⟨[0,2,24,25],[(.loc 2)],[sI 25]⟩,[(.ret,⟨[2,3],[(.loc 2)],[sI 3,.cell (.loc 2) 0 iI,.cell (.loc 2) 1 .s,.cell (.loc 2) 2 iI]⟩),(.exit 1,⟨[0,2],[(.loc 2)],[]⟩)],O⟩,⟨⟨[0,2,6],[(.loc 2)],[sI 6]⟩,[(.exit 3,⟨[2,6],[(.loc 2)],[sI 6]⟩)],O⟩])
def aml:Bd:=gd func155 (sg [oS] [.row aT,oI]) I0 (fy 0 [0,1,3,6,12] [2,3] 37485 [.loc 2]) [KH,Qb,Qc]
def amm:Bd:=gd func100 (sg [oI,oS] [.row aT,oI]) (u2 ql) (fy 4 [5,7,13] [4,5] 8435 [.loc 4]) [amj,amk,aml]
def ZM:Bd:=gd func156 (sg [.one (.n .data aT)] [.one (.n .data aT)]) CH (fx 7 [2] 274911725437 [.loc 5]) [] (ll [⟨⟨[0,3,8,9],[],[.slot 3 (.n .own aT),sI 9]⟩,[(.exit 0,⟨[3],[],[.slot 3 (.n .own aT)]⟩)],O⟩])
def KI:Bd:=gd func101 (sg [.one (.n .data aT),.one (.n .data aT)] [.one (.n .data aT)]) (u2 kc) (fx 5 [4] 19) [ZM]
def En:Bd:=gd func51 (sg [oI,oS] [.one (.n .data aT),oN,oI,oI]) (u2 hO) (fy 18 [41,48] [4,5,6,7] 162261907451833738597619611205619 [.loc 14]) [amm,Aa,KI] (ll [⟨⟨(bt 16131),[],[.slot 8 (.n .data aT),.slot 9 (.n .own aT),.slot 10 (.n .own (.int .i64)),sI 11,sI 12,sI 13]⟩,[(.ret,⟨[4,5,6,7],[],[.slot 4 (.n .data aT),.slot 5 (.n .data (.int .i64)),sI 6,sI 7]⟩),(.exit 0,⟨(bt 5890),[],[.slot 8 (.n .data aT),.slot 9 (.n .own aT),.slot 10 (.n .own (.int .i64)),sI 12]⟩)],O⟩])
def amn:Bd:=gd func223 (sg [oI] [oS]) CO (fx 4 [2] 32781) [] (ll [⟨⟨[0,3],[],[sI 0,.slot 3 .s]⟩,[(.ret,⟨[2],[],[.slot 2 .s]⟩)],O⟩])
def Qd:Bd:=gd func176 (sg [oI] [oS]) wW (fx 3 [2] 261) [amn]
def Qe:Bd:=gd func175 (sg [.ptr (.inb 0) 0,oS,oI,oI] [] [.cells [.s,.n .own cG,.i .i64]] [[J .s,J (.n .own cG),J iI]]) (u4 rB) (fx 8 [] 15 [.inb 0])
def Qf:Bd:=gd func177 (sg [.ptr (.inb 0) 0] [.one (.n .data cG)] [.cells [.s,.n .own cG,.i .i64]] [[J .s,J .dd,J iI]]) rA (fx 3 [2] 5 [.inb 0])
def amo:Bd:=gd func113 (sg [oS] [.one (.n .data cG),oI,oI]) zy (fx 18 [2,3,4] 1287460059898249709024681607165 [.loc 9,.loc 20]) [KH,ZJ,ZL,Aa,Qa,En,Qd,Qe,Qf] (ll [⟨⟨[0,5,6,7],[(.loc 20)],[sI 6,sI 7,.cell (.loc 20) 0 .s,.cell (.loc 20) 1 (.n .own cG),.cell (.loc 20) 2 iI]⟩,[(.ret,⟨[2,3,4],[],[.slot 2 (.n .data cG),sI 3,sI 4]⟩),(.exit 0,⟨[5],[(.loc 20)],[.cell (.loc 20) 0 .s,.cell (.loc 20) 1 (.n .own cG),.cell (.loc 20) 2 iI]⟩)],O⟩])
def amq:Bd:=gd func178 (sg [oS,oI,oB] [oI]) (u3 rC) (fx 7 [6] 8454215) [] (ll [⟨⟨[0,1,2],[],[sI 1]⟩,[(.exit 0,⟨[0,1],[],[sI 1]⟩)],O⟩])
def amr:Bd:=gd func179 (sg [.one (.i .u8)] [oB]) I3 (fx 3 [2] 5)
def ams:Bd:=gd func180 (sg [.one (.n .own cG),oS] [oB]) (u2 I2) (fx 6 [4] 16778163) [] (ll [⟨⟨[0,1,7,8],[],[sI 8]⟩,[(.ret,⟨[4],[],[.slot 4 .b]⟩),(.exit 0,⟨[],[],[]⟩)],O⟩])
def amt:Bd:=gd func114 (sg [oS] [.one (.n .data cG),oI,oI]) zA (fy 0 [0,2,3,4,5,6,7,8,9,10,11,12,13] [2,3,4] 5316932275452863015468449236348056573 [.loc 16]) [amq,amr,ams,En,Qe,Qf] (ll [⟨⟨[0,5,6],[(.loc 16)],[sI 6,.cell (.loc 16) 0 .s,.cell (.loc 16) 1 (.n .own cG),.cell (.loc 16) 2 iI]⟩,[(.ret,⟨[2,3,4],[],[.slot 2 (.n .data cG),sI 3,sI 4]⟩),(.exit 0,⟨[5],[(.loc 16)],[.cell (.loc 16) 0 .s,.cell (.loc 16) 1 (.n .own cG),.cell (.loc 16) 2 iI]⟩)],O⟩,⟨⟨[0,5,6,7],[(.loc 16)],[sI 7]⟩,[(.exit 2,⟨[0,5,6,7],[(.loc 16)],[sI 7]⟩)],O⟩,⟨⟨[0,5,6,7],[(.loc 16)],[sI 7]⟩,[(.exit 4,⟨[0,5,6,7],[(.loc 16)],[sI 7]⟩)],O⟩])
def amu:Bd:=gd func181 (sg [oS,oI] [oI,oB,oB]) (u2 I6) (fx 9 [4,5,6] 4835703567885161502605811) [] (ll [⟨⟨[0,7,8],[],[sI 8]⟩,[(.exit 0,⟨[0,7,8],[],[sI 8]⟩)],O⟩,⟨⟨[0,7,8],[],[sI 8]⟩,[(.exit 2,⟨[0,7,8],[],[sI 8]⟩)],O⟩])
def amv:Bd:=gd func115 (sg [oS] [.one (.n .data cG),oI,oI]) zB (fy 0 [0,2,3,4,5,6,7,8,9,10,11,12,13,14,15,16,17,18,19] [2,3,4] 5892467705334340315318706939473420943357 [.loc 22]) [amu,En,Qd,Qe,Qf] (ll [⟨⟨(bt 993),[(.loc 22)],[sI 6,sI 7,sI 8,sI 9,.cell (.loc 22) 0 .s,.cell (.loc 22) 1 (.n .own cG),.cell (.loc 22) 2 iI]⟩,[(.ret,⟨[2,3,4],[],[.slot 2 (.n .data cG),sI 3,sI 4]⟩),(.exit 0,⟨[5],[(.loc 22)],[.cell (.loc 22) 0 .s,.cell (.loc 22) 1 (.n .own cG),.cell (.loc 22) 2 iI]⟩)],O⟩,⟨⟨(bt 8161),[(.loc 22)],[sI 6,sI 8,sI 11,sI 12,.cell (.loc 22) 0 .s,.cell (.loc 22) 1 (.n .own cG),.cell (.loc 22) 2 iI]⟩,[(.ret,⟨[2,3,4],[],[.slot 2 (.n .data cG),sI 3,sI 4]⟩),(.exit 2,⟨(bt 8161),[(.loc 22)],[sI 6,sI 8,sI 11,sI 12,.cell (.loc 22) 0 .s,.cell (.loc 22) 1 (.n .own cG),.cell (.loc 22) 2 iI]⟩)],O⟩])
def B70:Bd:=gd func70 (sg [oI,oS] [.one (.n .data cG),oI,oI]) (u2 I7) (fy 7 [11,18] [4,5,6] 265843) [amo,amt,amv]
def Qg:Bd:=gd func35 (sg [oI,oS] [.row cW,oI,oI]) (u2 o8) (fy 4 [5,6,7,8,9] [4,5,6] 4199411 [.loc 4]) [P9,B70]
def ZN:Bd:=gd func37 (sg [] [.one (.n .own xp)]) (λ_=>wN) ({fx 3 [0] 7 [.loc 1,.loc 2]with od:=I})
def Qh:Bd:=gd func19 (sg [.row cW] [oS]) wV (fx 5 [2] 927 [.loc 1]) [] (ll [⟨⟨[1,3,7,8],[(.loc 1)],[.slot 3 .s,sI 8]⟩,[(.exit 0,⟨[3],[],[.slot 3 .s]⟩)],O⟩])
def amx:Bd:=gd func182 (sg [.one (.n .data cG),.one (.n .data cG)] [oB]) (u2 I8) (fx 6 [4] 16806963) [] (ll [⟨⟨[0,1,12,13],[],[sI 13]⟩,[(.ret,⟨[4],[],[.slot 4 .b]⟩),(.exit 0,⟨[],[],[]⟩)],O⟩])
def amy:Bd:=gd func116 (sg [.row cW,.row cW] [oB]) (u2 Ps) (fx 5 [4] 31 [.loc 2,.loc 3]) [amx]
def Qi:Bd:=gd func71 (sg [.row cW] [oI]) rD (fx 6 [2] 67109423 [.loc 1,.loc 3]) [P9,Qh,Qg,amy]
def Qj:Bd:=gd func72 (sg [.row cW] [oN]) CM (fx 5 [2] 66463 [.loc 1]) [] (ll [⟨⟨[1,3,7,8],[(.loc 1)],[.slot 3 (.n .own (.int .i64)),sI 8]⟩,[(.exit 0,⟨[3],[],[.slot 3 (.n .own (.int .i64))]⟩)],O⟩])
def Eo:Bd:=gd func73 (sg [.row cW,oI] [.one (.n .data aT),oI]) (u2 lc) (fx 10 [4,5] 2147492471 [.loc 2]) [P9,En]
def ZO:Bd:=gd func117 (sg [.one (.n .data aT)] [oS]) tQ (fx 5 [2] 268468701) [] (ll [⟨⟨[0,3,6,7],[],[.slot 3 .s,sI 7]⟩,[(.exit 0,⟨[3],[],[.slot 3 .s]⟩)],O⟩])
def amX:Bd:=gd func294 (sg [oS] [.one (.n .data .bool)]) Po (fx 4 [2] 13)
def uu:Bd:=gd func102 (sg [.one (.n .data aT)] [oI]) lN (fx 5 [2] 33245) [] (ll [⟨⟨[0,3,6,7],[],[sI 3,sI 7]⟩,[(.exit 0,⟨[3],[],[sI 3]⟩)],O⟩])
def uw:Bd:=gd func120 (sg [.one (.n .data aT),oI,oI] [.one (.n .data aT),oB]) (u3 kZ) (fx 14 [6,7] 590295881004273909703 [.loc 11]) [uu] (ll [⟨⟨[0,1,2,8,9,28,29],[],[.slot 8 (.n .own aT),sI 9,sI 29]⟩,[(.exit 0,⟨[8],[],[.slot 8 (.n .own aT)]⟩)],O⟩])
def am2:Bd:=gd func119 (sg [.one (.n .data aT),oI] [oI]) (u2 IR) (fx 11 [4] 288231613119595251) [ZO,uu,uw] (ll [⟨⟨[0,1,5,6],[],[sI 6]⟩,[(.ret,⟨[4],[],[sI 4]⟩),(.exit 0,⟨[],[],[]⟩)],O⟩,⟨⟨[0,5,6],[],[sI 6]⟩,[(.exit 2,⟨[6],[],[sI 6]⟩)],O⟩])
def ZX:Bd:=gd func184 (sg [.one (.i .u8)] [oI]) wO (fy 4 [18,25,32] [2] 4328783885)
def am3:Bd:=gd func121 (sg [oS] [oI,oI]) Cx (fx 6 [2,3] 272760893) [ZX] (ll [⟨⟨[0,4,5],[],[sI 4]⟩,[(.exit 0,⟨[0,4,5],[],[sI 4]⟩)],O⟩,⟨⟨[0,4,5],[],[sI 5]⟩,[(.exit 2,⟨[4,5],[],[sI 5]⟩)],O⟩])
def am4:Bd:=gd func122 (sg [.one (.n .data aT),oI] [oB]) (u2 wQ) (fx 7 [4] 115) [uw,ZX]
def Qk:Bd:=gd func22 (sg [.row eM,oI] [oI]) (u2 w6) (fx 7 [4] 266103 [.loc 2,.loc 6]) [] (ll [⟨⟨[1,8,9,10],[],[sI 10]⟩,[(.ret,⟨[4],[],[sI 4]⟩),(.exit 0,⟨[],[],[]⟩)],O⟩])
def Ql:Bd:=gd func76 (sg [.row eM,oI] [.one (.n .data aT)]) (u2 tV) (fx 10 [4] 375 [.loc 2,.loc 5]) [Eo,uw]
def am6:Bd:=gd func123 (sg [.row dT] [oB]) Jc (fy 3 [5,21,31,41] [2] 2201172836407 [.loc 1]) [Em]
def Ad:Bd:=gd func53 (sg [.row aT] [oB]) nU (fx 3 [2] 7 [.loc 1])
abbrev Qm:cw:=Ad.1.2
def G53:cM prog (53,Qm):=Ad.2
def am8:Bd:=gd func103 (sg [.one (.n .data aT),.row aT] [oI]) (u2 Jf) (fy 7 [9,34,45,62] [4] 5192376091079704906552950600500091 [.loc 3,.loc 6]) [Em,ZK,Ad,Aa] (ll [⟨⟨[0,3,79,80],[(.loc 3)],[sI 80]⟩,[(.ret,⟨[4],[],[sI 4]⟩),(.exit 1,⟨[],[],[]⟩)],O⟩])
def Qn:Bd:=gd func52 (sg [.one (.n .data aT)] [oI]) zE (fx 5 [2] 134336541) [uu,am8] (ll [⟨⟨[0,14,15],[],[sI 15]⟩,[(.ret,⟨[2],[],[sI 2]⟩),(.exit 0,⟨[],[],[]⟩)],O⟩])
def am9:Bd:=gd func185 (sg [.one (.n .data aT)] [oN,oN,oB]) CU (fy 9 [19,29,33,44] [2,3,4] 17601313644029) [] (ll [⟨⟨(bt 3169),[],[.slot 5 (.n .own (.int .i64)),.slot 6 (.n .own (.int .i64)),sI 11]⟩,[(.ret,⟨[2,3,4],[],[.slot 2 (.n .data (.int .i64)),.slot 3 (.n .data (.int .i64)),.slot 4 .b]⟩),(.exit 0,⟨[5,6],[],[.slot 5 (.n .own (.int .i64)),.slot 6 (.n .own (.int .i64))]⟩)],O⟩])
def ZZ:Bd:=gd func32 (sg [oN,oN] [oB]) (u2 zD) (fx 6 [4] 16806963) [] (ll [⟨⟨[0,1,12,13],[],[sI 13]⟩,[(.ret,⟨[4],[],[.slot 4 .b]⟩),(.exit 0,⟨[],[],[]⟩)],O⟩])
def ana:Bd:=gd func226 (sg [.one (.n .data .str),oS] [.one (.n .data .str)]) (u2 Je) (fx 7 [4] 262259) [] (ll [⟨⟨[0,1,5],[],[sI 5]⟩,[(.exit 0,⟨[0,1,5],[],[sI 5]⟩)],O⟩])
def anb:Bd:=gd func186 (sg [.one (.n .data aT)] [.one (.n .data .str)]) CX (fx 5 [2] 33245) [ana] (ll [⟨⟨[0,3,6,7],[],[.slot 3 (.n .data .str),sI 7]⟩,[(.exit 0,⟨[3],[],[.slot 3 (.n .data .str)]⟩)],O⟩])
def B20:Bd:=gd func20 (sg [.one (.n .data .str),.one (.n .data .str)] [oB]) (u2 Jd) (fx 6 [4] 16806963) [] (ll [⟨⟨[0,1,12,13],[],[sI 13]⟩,[(.ret,⟨[4],[],[.slot 4 .b]⟩),(.exit 0,⟨[],[],[]⟩)],O⟩])
def ane:Bd:=gd func187 (sg [.one (.n .data aT)] [.one (.n .data aT)]) CZ (fx 5 [2] 16861) [Ad] (ll [⟨⟨[0,3,6,7],[],[.slot 3 (.n .own aT),sI 7]⟩,[(.exit 0,⟨[3],[],[.slot 3 (.n .own aT)]⟩)],O⟩])
def anf:Bd:=gd func188 (sg [.one (.n .data aT),.row aT] [oI]) (u2 C2) (fx 7 [4] 132987 [.loc 3]) [] (ll [⟨⟨[0,3,5,8,9],[(.loc 3)],[sI 5,sI 9]⟩,[(.exit 0,⟨[5],[],[sI 5]⟩)],O⟩])
def Z5:Bd:=gd func124 (sg [.one (.n .data aT),.one (.n .data aT)] [oB]) (u2 w7) (fx 14 [4] 302264891879090705940467) [am9,ZZ,anb,B20,ane,anf] (ll [⟨⟨[11,12,62,63],[],[sI 63]⟩,[(.ret,⟨[4],[],[.slot 4 .b]⟩),(.exit 0,⟨[],[],[]⟩)],O⟩])
def B56:Bd:=gd func56 (sg [oI,.one (.i .u8)] [oS]) (u2 zI) (fy 6 [19,22,24,26,28,31,33,35,37] [4] 183969022515)
def Z6:Bd:=gd func23 (sg [oI,.one (.n .data aT)] [oS,oI]) (u2 Dd) (fy 11 [39,56,64,72,80] [4,5] 1213666704935244293621747 [.loc 9]) [Qn,Ad,Aa,Qa,B56] (ll [⟨⟨[0,1,7,17,18],[],[.slot 7 .s,sI 18]⟩,[(.ret,⟨[4,5],[],[.slot 4 .s,sI 5]⟩),(.exit 0,⟨[7],[],[.slot 7 .s]⟩)],O⟩,⟨⟨(bt 394883),[(.loc 9)],[.slot 7 .s,sI 10]⟩,[(.exit 3,⟨[0,1,7,17,18],[],[.slot 7 .s]⟩)],O⟩])
def Z7:Bd:=gd func222 (sg [.one (.n .own (.int .i64)),oI] [oB]) (u2 Jh) (fx 6 [4] 66483) [] (ll [⟨⟨[0,1,7,8],[],[sI 8]⟩,[(.ret,⟨[4],[],[.slot 4 .b]⟩),(.exit 0,⟨[],[],[]⟩)],O⟩])
abbrev Qo:cw:=Z7.1.2
def anh:cM prog (222,Qo):=Z7.2
def Z8:gq:={cfg:={N:=35,T:=T,R:=R,eu:=λ_ f=>nO f [(53,Qm),(222,Qo)],var:=[0,1,2,3,4],res:=[2],eqs:=EQ,mh:=W},keys:=[0,2,3,4,6,7,8,24],fQ:=[]}
def Qp:bm:={args:=[.one (.n .data aT)],boxes:=[],res:=[.one (.n .data (.int .i64))],hM:=[],bR:=[]}
def Z9:U→Q fD:=λn=>match n with|0=>J {head:={live:=[0,3,6,7],fC:=[],vs:=[.slot 3 (.n .own (.int .i64)),.slot 7 (.i .i64)]},fE:=[(.exit 0,{live:=[3],fC:=[],vs:=[.slot 3 (.n .own (.int .i64))]})]}|_=>O
set_option maxRecDepth 100000 in
def ani:∀x,rm Z8 Z9 f198 Qp x=(λx=>zH x) x:=by intro x;kernel_rfl
def anj:gn prog 198 (Qp.F (λx=>zH x)):=tJ (F:=Z8) (tbl:=Z9) func198 (by kernel_rfl) mix (wG (l:=[(53,Qm),(222,Qo)]) (qw rfl rfl) rfl (gH.2 ⟨G53,gH.2 ⟨anh,by simp⟩⟩)) (by kernel_rfl) (by kernel_rfl) (by decide) (λ_=>by kernel_rfl) ani
def aac:cw:=Qp.eu (by kernel_rfl) (λx=>zH x)
def ank:cM prog (198,aac):=wH func198 (by kernel_rfl) (by kernel_rfl) anj
abbrev anl:{p:cY×cw // cM prog p}:=⟨(198,aac),ank⟩
def anm:Bd:=gd func200 (sg [oI] [oN]) Da (fx 5 [2] 157) [] (ll [⟨⟨[0,3,4],[],[.slot 3 (.n .own (.int .i64)),sI 4]⟩,[(.exit 0,⟨[3],[],[.slot 3 (.n .own (.int .i64))]⟩)],O⟩])
def ann:Bd:=gd func199 (sg [.one (.n .data aT),oN,oN] [.one (.n .data aT)]) (u3 Ji) (fx 11 [6] 35253095790535 [.loc 9]) [Ad,ZM] (ll [⟨⟨(bt 12423),[],[.slot 7 (.n .own aT),sI 13]⟩,[(.exit 0,⟨[7],[],[.slot 7 (.n .own aT)]⟩)],O⟩,⟨⟨(bt 13959),[(.loc 9)],[sI 10]⟩,[(.exit 2,⟨(bt 12423),[],[.slot 7 (.l .own aT)]⟩)],O⟩])
def ano:Bd:=gd func142 (sg [.one (.n .data aT)] [.one (.n .data aT)]) Jj (fx 4 [2] 13) [anl,anm,ann]
def anp:Bd:=gd func141 (sg [.one (.n .data aT),.one (.n .data aT)] [oB]) (u2 Db) (fx 6 [4] 16806963) [] (ll [⟨⟨[0,1,12,13],[],[sI 13]⟩,[(.ret,⟨[4],[],[.slot 4 .b]⟩),(.exit 0,⟨[],[],[]⟩)],O⟩])
def B87:Bd:=gd func87 (sg [.row cW,oI,.one (.n .data gQ),.one (.n .data lS)] [.row cW,oI]) (u4 zK) (fy 4 [9,10,11,12,13,14,15,16,17,18,21,22,23,24,26,27,28,29,30,31,32,33,34] [8,9] 6430915247832308296771500662280795287015130829256447229214495 [.loc 4,.loc 8,.loc 20,.loc 25,.loc 35]) [Qi,Eo,En,uu,Z6,uw,KI,ano,anp,Qh] (ll [⟨⟨(bt 66113130760175033297182),[(.loc 4),(.loc 8)],[sI 18,sI 75]⟩,[(.ret,⟨[8,9],[(.loc 8)],[sI 9,.cell (.loc 8) 0 iI,.cell (.loc 8) 1 (.n .own cG)]⟩),(.exit 0,⟨(bt 43294),[(.loc 4),(.loc 8)],[]⟩)],O⟩,⟨⟨(bt 17747108403195211620953859860762),[(.loc 4),(.loc 8)],[sI 18,.slot 21 .s,sI 22,.slot 23 (.n .data aT),sI 103]⟩,[(.ret,⟨[8,9],[(.loc 8)],[sI 9,.cell (.loc 8) 0 iI,.cell (.loc 8) 1 (.n .own cG)]⟩),(.exit 2,⟨(bt 14952722),[(.loc 4),(.loc 8)],[sI 18,.slot 21 .s,sI 22,.slot 23 (.n .data aT)]⟩)],O⟩])
def B75:Bd:=gd func75 (sg [.row cW,.one (.n .data aT),.row dT] [oI]) (u3 zL) (fx 10 [6] 69341935 [.loc 3,.loc 5,.loc 8]) [am6,Qn,Z5,B87]
def B77:Bd:=gd func77 (sg [.row eM,oI,.row dT] [.row eM]) (u3 Pv) (fy 6 [7] [6] 239 [.loc 3,.loc 5,.loc 6])
def B38:Bd:=gd func38 (sg [.row eM,.row dT] [.row eM,oI]) (u2 tW) ({fy 4 [5,6,7,8] [4,5] 1125899906859519 [.loc 2,.loc 3,.loc 4,.loc 7]with bx:=W}) [Qk,Ql,B75,B77]
def Qq:Bd:=gd func57 (sg [oI] [oB]) w9 (fx 3 [2] 5)
def Qt:Bd:=gd func159 (sg [oS] [.ptr (.inb 0) 0] [] [[J .s,J iI,J (.n .own cG)]]) xa (fx 3 [2] 5 [.loc 5])
def ans:Bd:=gd func257 (sg [oS,oS] [oB]) (u2 Py) (fx 5 [4] 19)
def KL:Bd:=gd func213 (sg [oS,oS] [oB]) (u2 nW) (fx 5 [4] 19) [ans]
def xu:Bd:=gd func247 (sg [oS] [oB]) nV (fx 5 [2] 1125899978145821) [] (ll [⟨⟨[0,3],[],[sI 3]⟩,[(.ret,⟨[2],[],[.slot 2 .b]⟩),(.exit 0,⟨[],[],[]⟩)],O⟩])
def anD:Bd:=gd func283 (sg [oS,oS] [oB]) (u2 Pz) (fx 5 [4] 19)
def anE:Bd:=gd func258 (sg [oS,oS] [oB]) (u2 Jp) (fx 5 [4] 19) [anD]
def anG:Bd:=gd func261 (sg [oI] [oI]) anF (fx 3 [2] 5)
def anM:Bd:=gd func285 (sg [oS] [.one (.i .u32),.one (.i .u32)]) aam (fx 9 [2,3] 1107300861) [] (ll [⟨⟨[0,4,5],[],[.slot 4 (.i .u32),sI 5]⟩,[(.exit 0,⟨[0,4],[],[.slot 4 (.i .u32)]⟩)],O⟩,⟨⟨[4,6,7,8],[],[.slot 6 (.i .u32),.slot 7 (.i .u32),sI 8]⟩,[(.exit 2,⟨[4,6],[],[.slot 6 (.i .u32)]⟩)],O⟩])
def anN:Bd:=gd func262 (sg [oS,oS] [oI]) (u2 anL) (fx 11 [4] 151115727469970589747187) [anM] (ll [⟨⟨(bt 995),[],[.slot 8 (.i .u32),sI 9]⟩,[(.exit 0,⟨(bt 483),[],[.slot 8 (.i .u32)]⟩)],O⟩,⟨⟨(bt 1507),[],[.slot 8 (.i .u32),sI 10]⟩,[(.ret,⟨[4],[],[sI 4]⟩),(.exit 2,⟨[],[],[]⟩)],O⟩])
def Qv:Bd:=gd func151 (sg [oS] [oB]) zM (fy 3 [4] [2] 29)
def aap:Bd:=gd func276 (sg [.ptr (.inb 0) 0,oB] [oB] [.cells [.n .own aT,.n .own (.int .u8),.n .own (.int .i64),.n .own aT,.i .i64]] [[O,O,O,O,O]]) (u2 Dh) (fx 6 [4] 268501043 [.inb 0])
def aaq:Bd:=gd func221 (sg [.ptr (.inb 0) 0] [] [.cells [.n .own aT,.n .own (.int .u8),.n .own (.int .i64),.n .own aT,.i .i64]] [[J (.n .own aT),J (.n .own (.int .u8)),J (.n .own (.int .i64)),J (.n .own aT),J iI]]) Dg (fx 2 [] 129 [.inb 0])
def aar:Bd:=gd func248 (sg [.ptr (.inb 0) 0,.row aT,oI] [oB] [.cells [.n .own aT,.n .own (.int .u8),.n .own (.int .i64),.n .own aT,.i .i64]] [[J (.n .own aT),J (.n .own (.int .u8)),J (.n .own (.int .i64)),J (.n .own aT),J iI]]) (u3 qm) (fx 7 [6] 343 [.inb 0,.loc 4]) [aap,aaq]
def aas:Bd:=gd func244 (sg [oB] [oI]) ld (fx 3 [2] 21)
def anS:Bd:=gd func243 (sg [oS] [.one (.i .u8),oI,oB]) Jo (fy 6 [8,11,14,17] [2,3,4] 149821) [KL]
def anT:Bd:=gd func245 (sg [.ptr (.inb 0) 0,.one (.i .u8),oI] [oB] [.cells [.n .own aT,.n .own (.int .u8),.n .own (.int .i64),.n .own aT,.i .i64]] [[J (.n .own aT),J (.n .own (.int .u8)),J (.n .own (.int .i64)),J (.n .own aT),J iI]]) (u3 tX) (fx 7 [6] 327 [.inb 0]) [aap]
def anV:Bd:=gd func169 (sg [.ptr (.inb 0) 0] [.one (.n .data aT)] [.cells [.n .own aT,.n .own (.int .u8),.n .own (.int .i64),.n .own aT,.i .i64]] [[J (.n .data aT),J (.n .own (.int .u8)),J (.n .own (.int .i64)),J (.n .own aT),J iI]]) Jl (fx 3 [2] 5 [.inb 0]) [aaq]
def Qw:Bd:=gd func162 (sg [.ptr (.inb 0) 0,oI,oI,oS] [] [.cells [.s,.i .i64,.n .own cG]] [[J .s,J iI,J (.n .own cG)]]) (u4 xc) (fx 8 [] 15 [.inb 0])
def Qx:Bd:=gd func164 (sg [.ptr (.inb 0) 0] [.one (.n .data cG)] [.cells [.s,.i .i64,.n .own cG]] [[J .s,J iI,J .dd]]) xb (fx 3 [2] 5 [.inb 0])
def aod:Bd:=gd func166 (sg [oS] [oI]) Jx (fx 5 [2] 4398046515229) [] (ll [⟨⟨[0,3],[],[sI 3]⟩,[(.exit 0,⟨[3],[],[sI 3]⟩)],O⟩])
def aoe:Bd:=gd func167 (sg [oS,oI] [oI]) (u2 PB) (fx 5 [4] 278547) [] (ll [⟨⟨[0,1],[],[sI 1]⟩,[(.exit 0,⟨[0,1],[],[sI 1]⟩)],O⟩])
def aof:Bd:=gd func249 (sg [.one (.i .u8)] [oB]) PA (fx 3 [2] 5)
def aog:Bd:=gd func250 (sg [.one (.i .u8)] [.one (.i .u8),oB]) Jt (fy 4 [5,7,9,11,13] [2,3] 10941)
def aay:Bd:=gd func276 (sg [.ptr (.inb 0) 0,oB] [oB] [.cells [.n .own aT,.n .own (.int .u8),.n .own (.int .i64),.i .i64,.i .i64]] [[O,O,O,O,O]]) (u2 Dq) (fx 6 [4] 268501043 [.inb 0])
def aoh:Bd:=gd func245 (sg [.ptr (.inb 0) 0,.one (.i .u8),oI] [oB] [.cells [.n .own aT,.n .own (.int .u8),.n .own (.int .i64),.i .i64,.i .i64]] [[J (.n .own aT),J (.n .own (.int .u8)),J (.n .own (.int .i64)),J iI,J iI]]) (u3 zQ) (fx 7 [6] 327 [.inb 0]) [aay]
def aaz:Bd:=gd func221 (sg [.ptr (.inb 0) 0] [] [.cells [.n .own aT,.n .own (.int .u8),.n .own (.int .i64),.i .i64,.i .i64]] [[J (.n .own aT),J (.n .own (.int .u8)),J (.n .own (.int .i64)),J iI,J iI]]) Dp (fx 2 [] 129 [.inb 0])
def aoi:Bd:=gd func248 (sg [.ptr (.inb 0) 0,.row aT,oI] [oB] [.cells [.n .own aT,.n .own (.int .u8),.n .own (.int .i64),.i .i64,.i .i64]] [[J (.n .own aT),J (.n .own (.int .u8)),J (.n .own (.int .i64)),J iI,J iI]]) (u3 Dr) (fx 7 [6] 343 [.inb 0,.loc 4]) [aay,aaz]
def aok:Bd:=gd func169 (sg [.ptr (.inb 0) 0] [.one (.n .data aT)] [.cells [.n .own aT,.n .own (.int .u8),.n .own (.int .i64),.i .i64,.i .i64]] [[J (.n .data aT),J (.n .own (.int .u8)),J (.n .own (.int .i64)),J iI,J iI]]) zP (fx 3 [2] 5 [.inb 0]) [aaz]
def aon:Bd:=gd func219 (sg [.ptr (.inb 0) 0,oI,oI,oI] [] [.cells [.s,.p (.inb 1) 0,.i .i64,.i .i64,.i .i64,.i .i64],.cells [.s,.i .i64,.n .own cG]] [[O,O,O,J iI,J iI,J iI],[O,O,O]]) (λx=>JF x.1 x.2.1 x.2.2.1 x.2.2.2.1 x.2.2.2.2) (fx 8 [] 32783 [.inb 0,.inb 1])
def aaC:Bd:=gd func276 (sg [.ptr (.inb 0) 0,oB] [oB] [.cells [.n .own aT,.n .own (.int .u8),.n .own (.int .i64)]] [[O,O,O]]) (u2 pa) (fx 6 [4] 268501043 [.inb 0])
def aoo:Bd:=gd func245 (sg [.ptr (.inb 0) 0,.one (.i .u8),oI] [oB] [.cells [.n .own aT,.n .own (.int .u8),.n .own (.int .i64)]] [[J (.n .own aT),J (.n .own (.int .u8)),J (.n .own (.int .i64))]]) (u3 qo) (fx 7 [6] 327 [.inb 0]) [aaC]
def aaD:Bd:=gd func221 (sg [.ptr (.inb 0) 0] [] [.cells [.n .own aT,.n .own (.int .u8),.n .own (.int .i64)]] [[J (.n .own aT),J (.n .own (.int .u8)),J (.n .own (.int .i64))]]) o9 (fx 2 [] 129 [.inb 0])
def aop:Bd:=gd func248 (sg [.ptr (.inb 0) 0,.row aT,oI] [oB] [.cells [.n .own aT,.n .own (.int .u8),.n .own (.int .i64)]] [[J (.n .own aT),J (.n .own (.int .u8)),J (.n .own (.int .i64))]]) (u3 rG) (fx 7 [6] 343 [.inb 0,.loc 4]) [aaC,aaD]
def aor:Bd:=gd func169 (sg [.ptr (.inb 0) 0] [.one (.n .data aT)] [.cells [.n .own aT,.n .own (.int .u8),.n .own (.int .i64)]] [[J (.n .data aT),J (.n .own (.int .u8)),J (.n .own (.int .i64))]]) JD (fx 3 [2] 5 [.inb 0]) [aaD]
def B59:Bd:=gd func59 (sg [.one (.n .data cG),.one (.n .data cG)] [oB]) (u2 JI) (fx 6 [4] 16806963) [] (ll [⟨⟨[0,1,12,13],[],[sI 13]⟩,[(.ret,⟨[4],[],[.slot 4 .b]⟩),(.exit 0,⟨[],[],[]⟩)],O⟩])
def aoz:Bd:=gd func139 (sg [.one (.n .data cG)] [.one (.n .data cG)]) JL (fx 3 [2] 21)
def aoA:Bd:=gd func193 (sg [.row cW] [.row cW]) PP (fx 2 [2] 7 [.loc 1,.loc 2]) [aoz]
def aoB:Bd:=gd func229 (sg [.one (.n .data aT)] [.one (.n .data aT)]) JK (fx 3 [2] 21)
def aoC:Bd:=gd func194 (sg [.row dT] [.row dT]) PN (fx 2 [2] 7 [.loc 1,.loc 2]) [aoB]
def aoD:Bd:=gd func132 (sg [.row eM] [.row eM]) JM (fy 0 [0,1,3,4,5,6,7] [2] 2013327535 [.loc 1,.loc 2,.loc 3,.loc 5,.loc 7]) [aoA,aoC] (ll [⟨⟨(bt 28686),[(.loc 1),(.loc 2),(.loc 3)],[sI 14,.cell (.loc 3) 0 (.n .own cW),.cell (.loc 3) 1 (.n .own dT),.cell (.loc 3) 2 iI]⟩,[(.exit 0,⟨[1,2,3],[(.loc 1),(.loc 2),(.loc 3)],[.cell (.loc 3) 0 (.n .own cW),.cell (.loc 3) 1 (.n .own dT),.cell (.loc 3) 2 iI]⟩)],O⟩,⟨⟨[2,3,27,28,29],[(.loc 2),(.loc 3)],[sI 29,.cell (.loc 3) 0 (.n .own cW),.cell (.loc 3) 1 (.n .own dT),.cell (.loc 3) 2 iI]⟩,[(.exit 2,⟨[2,3],[(.loc 2),(.loc 3)],[.cell (.loc 3) 0 (.n .own cW),.cell (.loc 3) 1 (.n .own dT),.cell (.loc 3) 2 iI]⟩)],O⟩])
def F82:gq:={cfg:={N:=22,T:=T,R:=R,eu:=λ_ f=>nO f [],var:=[0,1,2,3,4,5],res:=[2],eqs:=EQ,dat:=[1,2,3,4,5],mh:=W},keys:=[0,1,2,3,4,5,7,8,9,10,15],fQ:=[.loc 1,.loc 5]}
def Er:bm:={args:=[.row cW],boxes:=[],res:=[.one (.n .data (.int .i64))],hM:=[],bR:=[]}
def L82:U→Q fD:=λn=>match n with|0=>J {head:={live:=[3,7,8,9],fC:=[],vs:=[.slot 3 (.n .own (.int .i64)),.slot 9 (.i .i64)]},fE:=[(.exit 0,{live:=[3],fC:=[],vs:=[.slot 3 (.n .own (.int .i64))]})]}|_=>O
set_option maxRecDepth 100000 in
def aoE:∀x,rm F82 L82 f82 Er x=(λx=>lQ x) x:=by intro x;kernel_rfl
def aaI:gn prog 82 (Er.F (λx=>lQ x)):=tJ (F:=F82) (tbl:=L82) func82 (by kernel_rfl) mix (wG (l:=[]) (qw rfl rfl) rfl (by simp)) (by kernel_rfl) (by kernel_rfl) (by decide) (λ_=>by kernel_rfl) aoE
def C82:cw:=Er.eu (by kernel_rfl) (λx=>lQ x)
def G82:cM prog (82,C82):=wH func82 (by kernel_rfl) (by kernel_rfl) aaI
abbrev B82:{p:cY×cw // cM prog p}:=⟨(82,C82),G82⟩
def QE:Bd:=gd func61 (sg [.row aT] [oI]) DB (fx 3 [2] 39 [.loc 1])
abbrev QG:cw:=QE.1.2
def G61:cM prog (61,QG):=QE.2
def Es:Bd:=gd func29 (sg [.one (.n .data aT)] [oI]) tZ (fx 6 [2] 1005 [.loc 5]) [QE] (ll [⟨⟨[3,6,7,8],[],[sI 3,sI 8]⟩,[(.exit 0,⟨[3],[],[sI 3]⟩)],O⟩])
abbrev Et:cw:=Es.1.2
def G29:cM prog (29,Et):=Es.2
def aoL:Bd:=gd func195 (sg [.row dT,.row dT] [oB]) (u2 Ka) (fy 6 [16] [4] 65599 [.loc 2,.loc 3])
def QH:gq:={cfg:={N:=29,T:=T,R:=R,eu:=λ_ f=>nO f [],var:=[0,1,2,3,4],res:=[4],eqs:=EQ,dat:=[2,3,4],mh:=W},keys:=[0,1,4],fQ:=[.inb 0]}
def QI:bm:={args:=[.ptr (.inb 0) 0,.one (.i .i64)],boxes:=[.cells [.n .data cW,.n .data dT,.i .i64,.l .own mU]],res:=[.one (.n .data aT)],hM:=[[O,O,O,O]],bR:=[]}
def L93:U→Q fD:=λ_=>O
set_option maxRecDepth 100000 in
def aoM:∀x,rm QH L93 f93 QI x=(λx=>ud x.1 x.2) x:=by intro x;kernel_rfl
def aoN:gn prog 93 (QI.F (λx=>ud x.1 x.2)):=tJ (F:=QH) (tbl:=L93) func93 (by kernel_rfl) mix (wG (l:=[]) (qw rfl rfl) rfl (by simp)) (by kernel_rfl) (by kernel_rfl) (by decide) (λ_=>by kernel_rfl) aoM
def C93:cw:=QI.eu (by kernel_rfl) (λx=>ud x.1 x.2)
def G93:cM prog (93,C93):=wH func93 (by kernel_rfl) (by kernel_rfl) aoN
abbrev B93:{p:cY×cw // cM prog p}:=⟨(93,C93),G93⟩
def F27:gq:={cfg:={N:=67,T:=T,R:=R,eu:=λ_ f=>nO f [(29,Et),(61,QG)],var:=[0,1,2,3,4,5,6,7,8,9,10,11,12,13,14],res:=[6,7],eqs:=EQ,dat:=[3,4,5,6,7,8,9,10,11,12,13,14],mh:=W},keys:=[0,1,2,6,7,8,9,11,12,13,14,27,28,29,30,31,46,49],fQ:=[.loc 11]}
def Eu:bm:={args:=[.one (.n .data aT),.one (.i .i64),.one (.i .i64)],boxes:=[],res:=[.one (.n .data aT),.one .b],hM:=[],bR:=[]}
def L27:U→Q fD:=λn=>match n with|0=>J {head:={live:=[1,2,8,9,28,29,30],fC:=[],vs:=[.slot 8 (.n .own aT),.slot 9 (.i .i64),.slot 30 (.i .i64)]},fE:=[(.exit 0,{live:=[8],fC:=[],vs:=[.slot 8 (.n .own aT)]})]}|_=>O
set_option maxRecDepth 100000 in
def aoQ:∀x,rm F27 L27 f27 Eu x=(λx=>pb x.1 x.2.1 x.2.2) x:=by intro x;kernel_rfl
def aaP:gn prog 27 (Eu.F (λx=>pb x.1 x.2.1 x.2.2)):=tJ (F:=F27) (tbl:=L27) func27 (by kernel_rfl) mix (wG (l:=[(29,Et),(61,QG)]) (qw rfl rfl) rfl (gH.2 ⟨G29,gH.2 ⟨G61,by simp⟩⟩)) (by kernel_rfl) (by kernel_rfl) (by decide) (λ_=>by kernel_rfl) aoQ
def C27:cw:=Eu.eu (by kernel_rfl) (λx=>pb x.1 x.2.1 x.2.2)
def G27:cM prog (27,C27):=wH func27 (by kernel_rfl) (by kernel_rfl) aaP
abbrev B27:{p:cY×cw // cM prog p}:=⟨(27,C27),G27⟩
def B48:Bd:=gd func48 (sg [.ptr (.inb 0) 0,oI] [.one (.n .data aT)] [.cells [.n .data cW,.n .data dT,.i .i64,.l .own mU]] [[O,O,O,O]]) (u2 uf) (fx 8 [4] 115 [.inb 0,.loc 5]) [B93,B27]
def aoS:Bd:=gd func230 (sg [.row dT] [oB]) J8 (fy 5 [13,26,33,42] [2] 4406703566879 [.loc 1]) [xu]
def Ev:Bd:=gd func111 (sg [.row aT] [oB]) pc (fx 3 [2] 7 [.loc 1])
def B88:Bd:=gd func88 (sg [.one (.n .data aT)] [oN,oN,oB]) DZ (fy 7 [13,22,36,56] [2,3,4] 72057662761609181 [.loc 6]) [] (ll [⟨⟨[2,3,7,8,9],[],[.slot 2 (.n .own (.int .i64)),.slot 3 (.n .own (.int .i64)),sI 9]⟩,[(.ret,⟨[2,3,4],[],[.slot 2 (.n .own (.int .i64)),.slot 3 (.n .own (.int .i64)),.slot 4 .b]⟩),(.exit 0,⟨[2,3],[],[.slot 2 (.n .own (.int .i64)),.slot 3 (.n .own (.int .i64))]⟩)],O⟩])
abbrev QJ:cw:=B88.1.2
def G88:cM prog (88,QJ):=B88.2
def B89:Bd:=gd func89 (sg [oN,oN] [oB]) (u2 D7) (fx 6 [4] 16806963) [] (ll [⟨⟨[0,1,12,13],[],[sI 13]⟩,[(.ret,⟨[4],[],[.slot 4 .b]⟩),(.exit 0,⟨[],[],[]⟩)],O⟩])
abbrev QK:cw:=B89.1.2
def G89:cM prog (89,QK):=B89.2
def B90:Bd:=gd func90 (sg [.one (.n .data aT)] [.one (.n .data aT)]) D6 (fx 6 [2] 9197 [.loc 5]) [Ev] (ll [⟨⟨[3,6,7,8],[],[.slot 3 (.n .own aT),sI 8]⟩,[(.exit 0,⟨[3],[],[.slot 3 (.n .own aT)]⟩)],O⟩])
abbrev QL:cw:=B90.1.2
def G90:cM prog (90,QL):=B90.2
def B91:Bd:=gd func91 (sg [.one (.n .data .str),.one (.n .data .str)] [oB]) (u2 J6) (fx 6 [4] 16806963) [] (ll [⟨⟨[0,1,12,13],[],[sI 13]⟩,[(.ret,⟨[4],[],[.slot 4 .b]⟩),(.exit 0,⟨[],[],[]⟩)],O⟩])
abbrev QN:cw:=B91.1.2
def G91:cM prog (91,QN):=B91.2
def aa6:Bd:=gd func135 (sg [.one (.n .data gQ),oI] [oB]) (u2 JO) (fx 8 [4] 1073745843 [.loc 7]) [] (ll [⟨⟨[1,5,8,9,10],[],[sI 5,sI 10]⟩,[(.ret,⟨[4],[],[.slot 4 .b]⟩),(.exit 0,⟨[],[],[]⟩)],O⟩])
abbrev QO:cw:=aa6.1.2
def ao8:cM prog (135,QO):=aa6.2
def ao9:Bd:=gd func145 (sg [.ptr (.inb 0) 0,oI] [oN] [.cells [.n .own aT,.n .own (.int .u8),.n .own (.int .i64),.n .own aT,.i .i64]] [[J (.n .own aT),J (.n .own (.int .u8)),J .dd,J (.n .own aT),J iI]]) (u2 PQ) (fx 5 [4] 19 [.inb 0])
def apa:Bd:=gd func145 (sg [.ptr (.inb 0) 0,oI] [oN] [.cells [.n .own aT,.n .own (.int .u8),.n .own (.int .i64),.i .i64,.i .i64]] [[J (.n .own aT),J (.n .own (.int .u8)),J .dd,J iI,J iI]]) (u2 PR) (fx 5 [4] 19 [.inb 0])
def apb:Bd:=gd func145 (sg [.ptr (.inb 0) 0,oI] [oN] [.cells [.n .own aT,.n .own (.int .u8),.n .own (.int .i64)]] [[J (.n .own aT),J (.n .own (.int .u8)),J .dd]]) (u2 PT) (fx 5 [4] 19 [.inb 0])
def ap1:Bd:=gd func110 (sg [.lK,oI] [.one (.n .own aT)]) JW ({fx 5 [4] 65619 with od:=I})
def B63:Bd:=gd func63 (sg [.one (.n .data lS)] [.one (.n .data aT)]) JX (fx 9 [2] 504373101) [ap1] (ll [⟨⟨(bt 3593),[],[sI 3,sI 11]⟩,[(.exit 0,⟨[0,3],[],[sI 3]⟩)],O⟩,⟨⟨[6,25,26,27],[],[.slot 6 (.n .own aT),sI 27]⟩,[(.exit 2,⟨[6],[],[.slot 6 (.n .own aT)]⟩)],O⟩])
def B62:Bd:=gd func62 (sg [.one (.n .data aT)] [.one (.n .data aT)]) DQ (fx 6 [2] 281543696220733) [] (ll [⟨⟨[0,3,4],[],[.slot 3 (.n .own aT),sI 4]⟩,[(.exit 0,⟨[3],[],[.slot 3 (.n .own aT)]⟩)],O⟩,⟨⟨[0,3,4,5],[],[sI 4,.slot 5 (.n .own (.int .u8))]⟩,[(.exit 2,⟨[0,3,4,5],[],[sI 4,.slot 5 (.n .own (.int .u8))]⟩)],O⟩])
def B28:Bd:=gd func28 (sg [.one (.n .data aT),.one (.n .data aT)] [.one (.n .data aT)]) (u2 zT) (fx 5 [4] 19) [B63,B62]
def abt:Bd:=gd func138 (sg [.one (.n .data aT),.one (.n .data gQ),.one (.n .data lS)] [.one (.n .data aT)]) (u3 JY) (fx 15 [6] 503751 [.loc 10]) [B27,B28,Es] (ll [⟨⟨(bt 229765),[],[.slot 7 (.n .data aT),sI 8,sI 17]⟩,[(.exit 0,⟨[0,7,8],[],[.slot 7 (.n .data aT),sI 8]⟩)],O⟩])
abbrev QZ:cw:=abt.1.2
def ap4:cM prog (138,QZ):=abt.2
def B65:Bd:=gd func65 (sg [.one (.n .data aT)] [oN]) JZ (fx 7 [2] 4198237 [.loc 6]) [Ev] (ll [⟨⟨[3,4,8,9,10],[],[.slot 3 (.n .own (.int .i64)),.slot 4 (.l .own ZG),sI 10]⟩,[(.exit 0,⟨[3],[],[.slot 3 (.n .own (.int .i64))]⟩)],O⟩])
def B67:Bd:=gd func67 (sg [oI] [oN]) DX (fx 5 [2] 1821) [] (ll [⟨⟨[3,8,9],[],[.slot 3 (.l .own (.int .i64)),sI 9]⟩,[(.exit 0,⟨[3],[],[.slot 3 (.l .own (.int .i64))]⟩)],O⟩])
def B66:Bd:=gd func66 (sg [.one (.n .data aT),oN,oN] [.one (.n .data aT)]) (u3 J1) (fx 14 [6] 1128356632345543 [.loc 11]) [Ev,B62] (ll [⟨⟨[0,1,2,7,8],[],[.slot 7 (.l .own P7),sI 8]⟩,[(.exit 0,⟨[0,7],[],[.slot 7 (.l .own P7)]⟩)],O⟩,⟨⟨[7,9,34,35,36],[],[.slot 9 (.n .own aT),sI 36]⟩,[(.exit 2,⟨[9],[],[.slot 9 (.n .own aT)]⟩)],O⟩])
def B31:Bd:=gd func31 (sg [.one (.n .data aT)] [.one (.n .data aT)]) J2 (fx 4 [2] 13) [B65,B67,B66]
abbrev Q0:cw:=B31.1.2
def G31:cM prog (31,Q0):=B31.2
def B64:Bd:=gd func64 (sg [.one (.n .data aT),.one (.n .data aT)] [oB]) (u2 PU) (fx 6 [4] 16806963) [] (ll [⟨⟨[0,1,12,13],[],[sI 13]⟩,[(.ret,⟨[4],[],[.slot 4 .b]⟩),(.exit 0,⟨[],[],[]⟩)],O⟩])
def B30:Bd:=gd func30 (sg [.one (.n .data aT),.one (.n .data aT)] [oB]) (u2 J3) (fx 5 [4] 19) [B64]
abbrev Q5:cw:=B30.1.2
def G30:cM prog (30,Q5):=B30.2
def abw:Bd:=gd func139 (sg [.one (.n .data cG)] [.one (.n .own cG)]) J4 ({fx 3 [2] 21 with od:=I})
abbrev Q6:cw:=abw.1.2
def aqb:cM prog (139,Q6):=abw.2
def B18:Bd:=gd func18 (sg [.one (.n .data alY),.one (.n .data alY)] [oB]) (u2 Zx) (fx 6 [4] 16806963) [] (ll [⟨⟨[0,1,12,13],[],[sI 13]⟩,[(.ret,⟨[4],[],[.slot 4 .b]⟩),(.exit 0,⟨[],[],[]⟩)],O⟩])
def B40:Bd:=gd func40 (sg [oN] [.ptr (.inb 0) 0] [] [[J (.n .data (.int .i64)),J iI]]) PY (fx 3 [2] 5 [.loc 5])
def arO:Bd:=gd func126 (sg [oI,oI] [oI]) (u2 PZ) (fx 5 [4] 531)
def rN:Bd:=gd func79 (sg [.ptr (.inb 0) 0,oI] [oI] [.row pd] [[O,J iI]]) (u2 gD) (fx 6 [4] 32819 [.inb 0]) [arO]
def arP:Bd:=gd func227 (sg [oS] [.row aT]) qu (fx 2 [2] 5 [.loc 2])
def arQ:Bd:=gd func189 (sg [.ptr (.inb 0) 0,oB] [.one (.n .data aT)] [.row pd] [[O,J iI]]) (u2 Kw) (fx 10 [4] 4503599627371507 [.inb 0,.loc 6,.loc 7]) [rN,arP]
def arR:Bd:=gd func125 (sg [.ptr (.inb 0) 0,oI] [.row cW] [.row pd] [[O,J iI]]) (u2 Kz) (fy 4 [5,6,7,8,9,10,11,12,13,14,59,66] [4] 38685700600253134923651059 [.inb 0,.loc 4,.loc 12]) [rN,arQ,Z6,Qd,Qg] (ll [⟨⟨[0,4,5,6,7],[(.inb 0),(.loc 4)],[.slot 6 .s,sI 7,.cell (.inb 0) 1 iI]⟩,[(.exit 0,⟨[4,5,6],[(.inb 0),(.loc 4)],[.slot 6 .s,.cell (.inb 0) 1 iI]⟩)],O⟩,⟨⟨(bt 1009),[(.inb 0),(.loc 4)],[.slot 8 .s,sI 9,.cell (.inb 0) 1 iI]⟩,[(.exit 2,⟨(bt 497),[(.inb 0),(.loc 4)],[.slot 8 .s,.cell (.inb 0) 1 iI]⟩)],O⟩])
def B78:Bd:=gd func78 (sg [.ptr (.inb 0) 0] [.one (.n .data cW)] [.row pd] [[O,J iI]]) KA (fx 5 [2] 285 [.inb 0]) [rN,arR] (ll [⟨⟨[0,3,4],[(.inb 0)],[.slot 3 (.n .own cW),sI 4,.cell (.inb 0) 1 iI]⟩,[(.exit 0,⟨[3],[(.inb 0)],[.slot 3 (.n .own cW),.cell (.inb 0) 1 iI]⟩)],O⟩])
def arT:Bd:=gd func222 (sg [oN,oI] [oB]) (u2 Ko) (fx 6 [4] 66483) [] (ll [⟨⟨[0,1,7,8],[],[sI 8]⟩,[(.ret,⟨[4],[],[.slot 4 .b]⟩),(.exit 0,⟨[],[],[]⟩)],O⟩])
def arU:Bd:=gd func170 (sg [.row cW,oI] [oB]) (u2 Kp) (fx 5 [4] 23 [.loc 2]) [Qj,arT]
def arV:Bd:=gd func171 (sg [.row dT,.row dT] [oB]) (u2 zX) (fx 5 [4] 524831 [.loc 2,.loc 3])
def arW:Bd:=gd func112 (sg [.row eM,oI] [oI]) (u2 zY) (fy 0 [0,1,4,7,8,11,12] [4] 20770473731211380479564972199775479 [.loc 2,.loc 5,.loc 6,.loc 10]) [arU,Eo,uu,arV,uw,B75] (ll [⟨⟨[1,2,5,6,7,90,91,92],[(.loc 2),(.loc 5),(.loc 6)],[sI 92]⟩,[(.ret,⟨[4],[],[sI 4]⟩),(.exit 0,⟨[1,2,5,6,7],[(.loc 2),(.loc 5),(.loc 6)],[]⟩)],O⟩])
def K8:Bd:=gd func68 (sg [.row eM] [oI]) xn (fx 8 [2] 578618270548215 [.loc 1,.loc 4]) [Qi,arW] (ll [⟨⟨[1,19,20,21],[(.loc 1)],[sI 21]⟩,[(.ret,⟨[2],[],[sI 2]⟩),(.exit 0,⟨[1],[(.loc 1)],[]⟩)],O⟩,⟨⟨[1,41,42],[(.loc 1)],[sI 42]⟩,[(.ret,⟨[2],[],[sI 2]⟩),(.exit 2,⟨[],[],[]⟩)],O⟩])
def arX:Bd:=gd func190 (sg [.row dT] [oI,oS]) Eg (fx 4 [2,3] 591 [.loc 1])
def arY:Bd:=gd func127 (sg [.row eM,oI,oI,oI] [.row eM,oI]) (u4 Ku) (fy 4 [9,10,11] [8,9] 73859033888943832863 [.loc 4,.loc 8,.loc 12,.loc 13,.loc 14,.loc 15]) [K8,Qk,uu,uw,arX]
def arZ:Bd:=gd func191 (sg [.row eM,oI] [oB]) (u2 Ks) (fx 5 [4] 23 [.loc 2])
def ar0:Bd:=gd func128 (sg [.row eM,oI] [.row eM,oI]) (u2 Kt) (fy 0 [0,1,5,6,7,11,12,13,14,15] [4,5] 674998591609678725883160429585346551 [.loc 2,.loc 4,.loc 8,.loc 9,.loc 10,.loc 16]) [K8,Qk,arZ,Eo,uw,KI,Qn]
def ar1:Bd:=gd func129 (sg [.row eM,.row dT] [.row eM,oI]) (u2 mT) (fy 4 [5,6] [4,5] 1151 [.loc 2,.loc 3,.loc 4]) [K8,B38]
def ar2:Bd:=gd func228 (sg [.ptr (.inb 0) 0] [oS] [.row pd] [[O,J iI]]) Kk (fx 3 [2] 5 [.inb 0]) [rN]
def ar3:Bd:=gd func192 (sg [.ptr (.inb 0) 0,oI] [oS] [.row pd] [[O,J iI]]) (u2 Kl) (fx 8 [4] 16785651 [.inb 0]) [rN,ar2] (ll [⟨⟨[0,5,6],[(.inb 0)],[.slot 5 .s,sI 6,.cell (.inb 0) 1 iI]⟩,[(.exit 0,⟨[5],[(.inb 0)],[.slot 5 .s,.cell (.inb 0) 1 iI]⟩)],O⟩])
def ar4:Bd:=gd func130 (sg [.ptr (.inb 0) 0,.one (.n .data aT)] [.one (.n .data aT)] [.row pd] [[O,J iI]]) (u2 Km) (fx 8 [4] 8590462707 [.inb 0,.loc 7]) [rN,ar3,KI] (ll [⟨⟨[0,1,5,9,10],[(.inb 0)],[.slot 5 (.n .data aT),sI 10,.cell (.inb 0) 1 iI]⟩,[(.exit 0,⟨[5],[(.inb 0)],[.slot 5 (.n .data aT),.cell (.inb 0) 1 iI]⟩)],O⟩])
def ar5:Bd:=gd func131 (sg [.ptr (.inb 0) 0] [oS] [.row pd] [[O,J iI]]) Kj (fx 3 [2] 5 [.inb 0]) [rN]
def B80:Bd:=gd func80 (sg [.ptr (.inb 0) 0,.row eM] [.row eM] [.row pd] [[O,J iI]]) (u2 Kv) (fy 0 [0,1,5,7,9,74,96,105,117] [4] 1361295661827274357053923909012136403963 [.inb 0,.loc 3,.loc 4,.loc 6,.loc 8]) [rN,Ql,uu,arY,ar0,ar1,ar4,ar5]
def B86:Bd:=gd func86 (sg [.row eM,oI,oB] [oB]) (u3 qv) (fx 8 [6] 207 [.loc 3,.loc 7]) [Ql,Z5]
def B45:Bd:=gd func45 (sg [.row eM,oI,oB] [.row cW,oI]) (u3 rI) (fy 6 [7,8,9,10,11,12,13,14,15,16,17] [6,7] 9913192311137897150593366991 [.loc 3,.loc 6,.loc 9,.loc 15,.loc 16]) [K8,Qj,B86,B87] (ll [⟨⟨[1,2,3,6,9,40,41,42],[(.loc 3),(.loc 6),(.loc 9)],[sI 42,.cell (.loc 9) 0 iI,.cell (.loc 9) 1 (.n .data cG)]⟩,[(.ret,⟨[6,7],[(.loc 6)],[sI 7,.cell (.loc 6) 0 iI,.cell (.loc 6) 1 (.n .own cG)]⟩),(.exit 0,⟨[6,9],[(.loc 6),(.loc 9)],[.cell (.loc 9) 0 iI,.cell (.loc 9) 1 (.n .data cG)]⟩)],O⟩,⟨⟨(bt 992858999896654),[(.loc 3),(.loc 6),(.loc 9)],[.slot 12 (.n .own gQ),.slot 13 (.n .own lS),sI 49]⟩,[(.exit 2,⟨(bt 7696581409358),[(.loc 3),(.loc 6),(.loc 9)],[.slot 12 (.n .own gQ),.slot 13 (.n .own lS)]⟩)],O⟩])
def B15:Bd:=gd func15 (sg [.row eM,oI] [oS,oI]) (u2 Tn) (fx 8 [4,5] 33015 [.loc 2,.loc 6]) [B45,Qh]
abbrev C15:cw:=B15.1.2
def G15:cM prog (15,C15):=B15.2
end
end Go.Proofs.YtgbmhohlapmgbaaGreatDoor.vd
namespace Go.Proofs
noncomputable section
open Go.Shelf
def Tryz.ZP:Fq:=⟨λ|169=>85|n=>n,λ|70=>134|9=>9|0=>0|72=>137|37=>135|127=>188|3=>3|5=>5|n=>n,λ|n=>n⟩
def Tryz.amz:Go.Proofs.Lays.n169 a7 Tryz.ZP:={mixed:=by kernel_rfl,f169:=Tryz.func85.trans (bz J (by kernel_rfl)),t0:=Tryz.underlying0,a0:=Tryz.isAgg0,z0:=Tryz.sizeOf0,v0:=Tryz.zeroValue0,t3:=uS,a3:=Tryz.isAgg3,z3:=Tryz.sizeOf3,v3:=Tryz.zeroValue3,t9:=r7,a9:=Tryz.isAgg9,z9:=Tryz.sizeOf9,v9:=Tryz.zeroValue9,t37:=oi,a37:=Tryz.isAgg135,z37:=Tryz.sizeOf135,v37:=Tryz.zeroValue135,t70:=TC,a70:=Tryz.isAgg134,z70:=Tryz.sizeOf134,v70:=Tryz.zeroValue134,t72:=Tryz.underlying137,a72:=Tryz.isAgg137,z72:=Tryz.sizeOf137,v72:=Tryz.zeroValue137,t127:=Tryz.underlying188,a127:=Tryz.isAgg188,z127:=Tryz.sizeOf188,v127:=Tryz.zeroValue188}
def Tryz.amA:Builder.Extra a7 Tryz.ZP:={sizeBuilder:=by kernel_rfl,liesBuilder:=by kernel_rfl,t5:=uT,a5:=Tryz.isAgg5,z5:=Tryz.sizeOf5,v5:=Tryz.zeroValue5,infoByte:=by kernel_rfl,cellsByte:=by kernel_rfl,sizeByte:=by kernel_rfl,neB5:=by decide}
open Go.RowKit in
def Tryz.Builder_String_any(B b:U)(l:L ai)(w:bD)(h:uU 137 5 B b (LV l) w)(a:B≤w.heap.size):dw a7 85 #[.pointer (J ⟨b,0,O⟩)] w λe w'=>e=.returned (.string ⟨l.toArray⟩)∧cn B w w':=Any.Builder_String_any Tryz.amz Tryz.amA B b l w h a
def Tryz.ant:Fq:=⟨λ|143=>161|219=>215|217=>259|225=>260|224=>261|267=>262|266=>284|314=>285|n=>n,λ|9=>9|3=>3|4=>4|5=>5|46=>255|146=>344|51=>261|n=>n,λ|1=>0|n=>n⟩
def Tryz.anu:Go.Proofs.Lays.n143 a7 Tryz.ant:={mixed:=by kernel_rfl,f143:=Tryz.func161.trans (bz J (by kernel_rfl)),f217:=Tryz.func259.trans (bz J (by kernel_rfl)),f219:=Tryz.func215.trans (bz J (by kernel_rfl)),f224:=Tryz.func261.trans (bz J (by kernel_rfl)),f225:=Tryz.func260.trans (bz J (by kernel_rfl)),f266:=Tryz.func284.trans (bz J (by kernel_rfl)),f267:=Tryz.func262.trans (bz J (by kernel_rfl)),f314:=Tryz.func285.trans (bz J (by kernel_rfl)),t3:=uS,a3:=Tryz.isAgg3,z3:=Tryz.sizeOf3,v3:=Tryz.zeroValue3,t4:=Tryz.underlying4,a4:=Tryz.isAgg4,z4:=Tryz.sizeOf4,v4:=Tryz.zeroValue4,t5:=uT,a5:=Tryz.isAgg5,z5:=Tryz.sizeOf5,v5:=Tryz.zeroValue5,t9:=r7,a9:=Tryz.isAgg9,z9:=Tryz.sizeOf9,v9:=Tryz.zeroValue9,t46:=Tryz.underlying255,a46:=Tryz.isAgg255,z46:=Tryz.sizeOf255,v46:=Tryz.zeroValue255,t51:=Tryz.underlying261,a51:=Tryz.isAgg261,z51:=Tryz.sizeOf261,v51:=Tryz.zeroValue261,t146:=Tryz.underlying344,a146:=Tryz.isAgg344,z146:=Tryz.sizeOf344,v146:=Tryz.zeroValue344,g1:=by kernel_rfl}
open Go.RowKit Go.Lib in
theorem Tryz.strings_Index(s sub:mc)(m:M)(w:bD)(a:s.size<4294967281)(hm:w.cell? ⟨0,0,O⟩=J (.int .i64 m)):dw a7 161 #[.string s,.string sub] w λe w'=>e=.returned (.int .i64 (Lib.index s.data.toList sub.data.toList))∧w'=w:=Any.strings_Index Tryz.anu s sub m w a hm
def Tryz.anW:Fq:=⟨λ|171=>163|243=>216|246=>263|283=>286|284=>287|285=>288|286=>289|129=>241|317=>302|318=>303|319=>304|320=>305|337=>317|338=>318|n=>n,λ|3=>3|9=>9|2=>2|4=>4|171=>346|0=>0|53=>299|37=>135|5=>5|173=>348|212=>372|51=>261|20=>20|213=>373|46=>255|232=>115|233=>391|n=>n,λ|17=>1|18=>4|19=>5|n=>n⟩
def Tryz.anX:Go.Proofs.LaysM.n171 a7 Tryz.anW:={mixed:=by kernel_rfl,f129:=Tryz.func241.trans (bz J (by kernel_rfl)),f171:=Tryz.func163.trans (bz J (by kernel_rfl)),f243:=Tryz.func216.trans (bz J (by kernel_rfl)),f246:=Tryz.func263.trans (bz J (by kernel_rfl)),f283:=Tryz.func286.trans (bz J (by kernel_rfl)),f284:=Tryz.func287.trans (bz J (by kernel_rfl)),f285:=Tryz.func288.trans (bz J (by kernel_rfl)),f286:=Tryz.func289.trans (bz J (by kernel_rfl)),f317:=Tryz.func302.trans (bz J (by kernel_rfl)),f318:=Tryz.func303.trans (bz J (by kernel_rfl)),f319:=Tryz.func304.trans (bz J (by kernel_rfl)),f320:=Tryz.func305.trans (bz J (by kernel_rfl)),f337:=Tryz.func317.trans (bz J (by kernel_rfl)),f338:=Tryz.func318.trans (bz J (by kernel_rfl)),t0:=Tryz.underlying0,a0:=Tryz.isAgg0,z0:=Tryz.sizeOf0,v0:=Tryz.zeroValue0,t2:=Tryz.underlying2,a2:=Tryz.isAgg2,z2:=Tryz.sizeOf2,v2:=Tryz.zeroValue2,t3:=uS,a3:=Tryz.isAgg3,z3:=Tryz.sizeOf3,v3:=Tryz.zeroValue3,t4:=Tryz.underlying4,a4:=Tryz.isAgg4,z4:=Tryz.sizeOf4,v4:=Tryz.zeroValue4,t5:=uT,a5:=Tryz.isAgg5,z5:=Tryz.sizeOf5,v5:=Tryz.zeroValue5,t9:=r7,a9:=Tryz.isAgg9,z9:=Tryz.sizeOf9,v9:=Tryz.zeroValue9,t20:=Tryz.underlying20,a20:=Tryz.isAgg20,z20:=Tryz.sizeOf20,v20:=Tryz.zeroValue20,t37:=oi,a37:=Tryz.isAgg135,z37:=Tryz.sizeOf135,v37:=Tryz.zeroValue135,t46:=Tryz.underlying255,a46:=Tryz.isAgg255,z46:=Tryz.sizeOf255,v46:=Tryz.zeroValue255,t51:=Tryz.underlying261,a51:=Tryz.isAgg261,z51:=Tryz.sizeOf261,v51:=Tryz.zeroValue261,t53:=Tryz.underlying299,a53:=Tryz.isAgg299,z53:=Tryz.sizeOf299,v53:=Tryz.zeroValue299,t171:=Tryz.underlying346,a171:=Tryz.isAgg346,z171:=Tryz.sizeOf346,v171:=Tryz.zeroValue346,t173:=Tryz.underlying348,a173:=Tryz.isAgg348,z173:=Tryz.sizeOf348,v173:=Tryz.zeroValue348,t212:=Tryz.underlying372,a212:=Tryz.isAgg372,z212:=Tryz.sizeOf372,v212:=Tryz.zeroValue372,t213:=Tryz.underlying373,a213:=Tryz.isAgg373,z213:=Tryz.sizeOf373,t232:=Tryz.underlying115,a232:=Tryz.isAgg115,z232:=Tryz.sizeOf115,v232:=Tryz.zeroValue115,t233:=Tryz.underlying391,a233:=Tryz.isAgg391,z233:=Tryz.sizeOf391,v233:=Tryz.zeroValue391,g17:=by kernel_rfl,g18:=by kernel_rfl,g19:=by kernel_rfl,i0:=by kernel_rfl,i2:=by kernel_rfl,i3:=by kernel_rfl,i4:=by kernel_rfl,i5:=by kernel_rfl,i9:=by kernel_rfl,i20:=by kernel_rfl,i37:=by kernel_rfl,i46:=by kernel_rfl,i51:=by kernel_rfl,i53:=by kernel_rfl,i171:=by kernel_rfl,i173:=by kernel_rfl,i212:=by kernel_rfl,i232:=by kernel_rfl,i233:=by kernel_rfl,m17:=by kernel_rfl,m18:=by kernel_rfl,m19:=by kernel_rfl}
open Go.RowKit Go.Sort Go.Lib in
theorem Tryz.strconv_Itoa(n:M)(b: -9223372036854775808≤n)(h1:n≤9223372036854775807)(w:bD)(a:Lib.TabIs a7 w "internal/strconv.uint64pow10" .u64 Lib.pow10Tab):dw a7 163 #[.int .i64 n] w λe w'=>e=.returned (.string ⟨(Lib.itoa n).toArray⟩)∧∃k os,w'=grow (w.drewN k) os:=Any.strconv_Itoa Tryz.anX n b h1 w a
def Tryz.an5:Fq:=⟨λ|161=>217|231=>264|227=>265|233=>266|235=>267|228=>290|197=>291|151=>292|260=>306|152=>307|137=>246|119=>319|224=>261|225=>260|217=>259|266=>284|n=>n,λ|9=>9|4=>4|3=>3|5=>5|117=>315|116=>314|0=>0|124=>318|105=>350|21=>21|119=>337|46=>255|139=>386|138=>385|n=>n,λ|3=>2|4=>3|n=>n⟩
def Tryz.an6:Go.Proofs.Lays.n161 a7 Tryz.an5:={mixed:=by kernel_rfl,f119:=Tryz.func319.trans (bz J (by kernel_rfl)),f137:=Tryz.func246.trans (bz J (by kernel_rfl)),f151:=Tryz.func292.trans (bz J (by kernel_rfl)),f152:=Tryz.func307.trans (bz J (by kernel_rfl)),f161:=Tryz.func217.trans (bz J (by kernel_rfl)),f197:=Tryz.func291.trans (bz J (by kernel_rfl)),f217:=Tryz.func259.trans (bz J (by kernel_rfl)),f224:=Tryz.func261.trans (bz J (by kernel_rfl)),f225:=Tryz.func260.trans (bz J (by kernel_rfl)),f227:=Tryz.func265.trans (bz J (by kernel_rfl)),f228:=Tryz.func290.trans (bz J (by kernel_rfl)),f231:=Tryz.func264.trans (bz J (by kernel_rfl)),f233:=Tryz.func266.trans (bz J (by kernel_rfl)),f235:=Tryz.func267.trans (bz J (by kernel_rfl)),f260:=Tryz.func306.trans (bz J (by kernel_rfl)),f266:=Tryz.func284.trans (bz J (by kernel_rfl)),t0:=Tryz.underlying0,a0:=Tryz.isAgg0,z0:=Tryz.sizeOf0,v0:=Tryz.zeroValue0,t3:=uS,a3:=Tryz.isAgg3,z3:=Tryz.sizeOf3,v3:=Tryz.zeroValue3,t4:=Tryz.underlying4,a4:=Tryz.isAgg4,z4:=Tryz.sizeOf4,v4:=Tryz.zeroValue4,t5:=uT,a5:=Tryz.isAgg5,z5:=Tryz.sizeOf5,v5:=Tryz.zeroValue5,t9:=r7,a9:=Tryz.isAgg9,z9:=Tryz.sizeOf9,v9:=Tryz.zeroValue9,t21:=Tryz.underlying21,a21:=Tryz.isAgg21,z21:=Tryz.sizeOf21,v21:=Tryz.zeroValue21,t46:=Tryz.underlying255,a46:=Tryz.isAgg255,z46:=Tryz.sizeOf255,v46:=Tryz.zeroValue255,t105:=Tryz.underlying350,a105:=Tryz.isAgg350,z105:=Tryz.sizeOf350,v105:=Tryz.zeroValue350,t116:=Tryz.underlying314,a116:=Tryz.isAgg314,z116:=Tryz.sizeOf314,t117:=Tryz.underlying315,a117:=Tryz.isAgg315,z117:=Tryz.sizeOf315,v117:=Tryz.zeroValue315,t119:=Tryz.underlying337,a119:=Tryz.isAgg337,z119:=Tryz.sizeOf337,t124:=Tryz.underlying318,a124:=Tryz.isAgg318,z124:=Tryz.sizeOf318,v124:=Tryz.zeroValue318,t138:=Tryz.underlying385,a138:=Tryz.isAgg385,z138:=Tryz.sizeOf385,v138:=Tryz.zeroValue385,t139:=Tryz.underlying386,a139:=Tryz.isAgg386,z139:=Tryz.sizeOf386,v139:=Tryz.zeroValue386,g3:=by kernel_rfl,g4:=by kernel_rfl}
def Tryz.nX(s a:mc)(w:bD)(d:a.size<4294967281)(c:∀(j:U)b,a.data.toList[j]?=J b→b.toNat<128):dw a7 217 #[.string s,.string a] w λe w'=>e=.returned (.string ⟨(Lib.trimLeftS s.data.toList a.data.toList).toArray⟩)∧cn w.heap.size w w':=Any.strings_TrimLeft_laid Tryz.an6 (by kernel_rfl) s a w d c
def Tryz.aoZ:Fq:=⟨λ|190=>143|125=>202|258=>201|128=>240|129=>241|302=>231|303=>232|304=>233|305=>234|306=>235|307=>236|308=>237|309=>238|310=>239|333=>270|329=>271|330=>272|334=>273|335=>274|336=>275|344=>295|n=>n,λ|31=>50|9=>9|3=>3|46=>255|0=>0|51=>261|53=>299|4=>4|183=>292|182=>291|131=>160|5=>5|218=>322|222=>326|228=>355|229=>166|n=>n,λ|n=>n⟩
def Tryz.aaW:Go.Proofs.Lays.n190 a7 Tryz.aoZ:={mixed:=by kernel_rfl,f125:=Tryz.func202.trans (bz J (by kernel_rfl)),f128:=Tryz.func240.trans (bz J (by kernel_rfl)),f129:=Tryz.func241.trans (bz J (by kernel_rfl)),f190:=Tryz.func143.trans (bz J (by kernel_rfl)),f258:=Tryz.func201.trans (bz J (by kernel_rfl)),f302:=Tryz.func231.trans (bz J (by kernel_rfl)),f303:=Tryz.func232.trans (bz J (by kernel_rfl)),f304:=Tryz.func233.trans (bz J (by kernel_rfl)),f305:=Tryz.func234.trans (bz J (by kernel_rfl)),f306:=Tryz.func235.trans (bz J (by kernel_rfl)),f307:=Tryz.func236.trans (bz J (by kernel_rfl)),f308:=Tryz.func237.trans (bz J (by kernel_rfl)),f309:=Tryz.func238.trans (bz J (by kernel_rfl)),f310:=Tryz.func239.trans (bz J (by kernel_rfl)),f329:=Tryz.func271.trans (bz J (by kernel_rfl)),f330:=Tryz.func272.trans (bz J (by kernel_rfl)),f333:=Tryz.func270.trans (bz J (by kernel_rfl)),f334:=Tryz.func273.trans (bz J (by kernel_rfl)),f335:=Tryz.func274.trans (bz J (by kernel_rfl)),f336:=Tryz.func275.trans (bz J (by kernel_rfl)),f344:=Tryz.func295.trans (bz J (by kernel_rfl)),t0:=Tryz.underlying0,a0:=Tryz.isAgg0,z0:=Tryz.sizeOf0,v0:=Tryz.zeroValue0,t3:=uS,a3:=Tryz.isAgg3,z3:=Tryz.sizeOf3,v3:=Tryz.zeroValue3,t4:=Tryz.underlying4,a4:=Tryz.isAgg4,z4:=Tryz.sizeOf4,v4:=Tryz.zeroValue4,t5:=uT,a5:=Tryz.isAgg5,z5:=Tryz.sizeOf5,v5:=Tryz.zeroValue5,t9:=r7,a9:=Tryz.isAgg9,z9:=Tryz.sizeOf9,v9:=Tryz.zeroValue9,t31:=Tryz.underlying50,a31:=Tryz.isAgg50,z31:=Tryz.sizeOf50,v31:=Tryz.zeroValue50,t46:=Tryz.underlying255,a46:=Tryz.isAgg255,z46:=Tryz.sizeOf255,v46:=Tryz.zeroValue255,t51:=Tryz.underlying261,a51:=Tryz.isAgg261,z51:=Tryz.sizeOf261,v51:=Tryz.zeroValue261,t53:=Tryz.underlying299,a53:=Tryz.isAgg299,z53:=Tryz.sizeOf299,v53:=Tryz.zeroValue299,t131:=Tryz.underlying160,a131:=Tryz.isAgg160,z131:=Tryz.sizeOf160,v131:=Tryz.zeroValue160,t182:=Tryz.underlying291,a182:=Tryz.isAgg291,z182:=Tryz.sizeOf291,v182:=Tryz.zeroValue291,t183:=Tryz.underlying292,a183:=Tryz.isAgg292,z183:=Tryz.sizeOf292,v183:=Tryz.zeroValue292,t218:=Tryz.underlying322,a218:=Tryz.isAgg322,z218:=Tryz.sizeOf322,v218:=Tryz.zeroValue322,t222:=Tryz.underlying326,a222:=Tryz.isAgg326,z222:=Tryz.sizeOf326,v222:=Tryz.zeroValue326,t228:=Tryz.underlying355,a228:=Tryz.isAgg355,z228:=Tryz.sizeOf355,v228:=Tryz.zeroValue355,t229:=Tryz.underlying166,a229:=Tryz.isAgg166,z229:=Tryz.sizeOf166,v229:=Tryz.zeroValue166}
open Go.Sort Go.RowKit in
def Tryz.slices_Sort_string(a off cap:U)(b:L (L ai))(w:bD)(f:Holds encStr w a off b.toArray)(c:a<w.heap.size)(d:b.length<4611686018427387904):dw a7 143 #[.slice (J ⟨a,off,O⟩) b.length cap] w λe w'=>e=.returned (.tuple #[])∧∃n os,w'=grow (putRow encStr (LW w n) a off (b.mergeSort λx y=>decide (x≤y)).toArray) os:=Any.slices_Sort_string Tryz.aaW a off cap b w f c d
def Tryz.ao0(p:Q dt)(cap:U)(w:bD):dw a7 143 #[.slice p 0 cap] w λe w'=>e=.returned (.tuple #[])∧w'=w:=Any.slices_Sort_string_none Tryz.aaW p cap w
def Tryz.api:Fq:=⟨λ|138=>358|195=>359|218=>360|143=>161|219=>215|217=>259|225=>260|224=>261|267=>262|266=>284|314=>285|n=>n,λ|9=>9|3=>3|4=>4|5=>5|0=>0|46=>255|146=>344|51=>261|n=>n,λ|1=>0|n=>n⟩
def Tryz.apj:Go.Proofs.Lays.n138 a7 Tryz.api:={mixed:=by kernel_rfl,f138:=Tryz.func358.trans (bz J (by kernel_rfl)),f143:=Tryz.func161.trans (bz J (by kernel_rfl)),f195:=Tryz.func359.trans (bz J (by kernel_rfl)),f217:=Tryz.func259.trans (bz J (by kernel_rfl)),f218:=Tryz.func360.trans (bz J (by kernel_rfl)),f219:=Tryz.func215.trans (bz J (by kernel_rfl)),f224:=Tryz.func261.trans (bz J (by kernel_rfl)),f225:=Tryz.func260.trans (bz J (by kernel_rfl)),f266:=Tryz.func284.trans (bz J (by kernel_rfl)),f267:=Tryz.func262.trans (bz J (by kernel_rfl)),f314:=Tryz.func285.trans (bz J (by kernel_rfl)),t0:=Tryz.underlying0,a0:=Tryz.isAgg0,z0:=Tryz.sizeOf0,v0:=Tryz.zeroValue0,t3:=uS,a3:=Tryz.isAgg3,z3:=Tryz.sizeOf3,v3:=Tryz.zeroValue3,t4:=Tryz.underlying4,a4:=Tryz.isAgg4,z4:=Tryz.sizeOf4,v4:=Tryz.zeroValue4,t5:=uT,a5:=Tryz.isAgg5,z5:=Tryz.sizeOf5,v5:=Tryz.zeroValue5,t9:=r7,a9:=Tryz.isAgg9,z9:=Tryz.sizeOf9,v9:=Tryz.zeroValue9,t46:=Tryz.underlying255,a46:=Tryz.isAgg255,z46:=Tryz.sizeOf255,v46:=Tryz.zeroValue255,t51:=Tryz.underlying261,a51:=Tryz.isAgg261,z51:=Tryz.sizeOf261,v51:=Tryz.zeroValue261,t146:=Tryz.underlying344,a146:=Tryz.isAgg344,z146:=Tryz.sizeOf344,v146:=Tryz.zeroValue344,g1:=by kernel_rfl}
open Go.RowKit Go.Lib in
def Tryz.strings_Count_one(s:mc)(c:ai)(w:bD):dw a7 358 #[.string s,.string ⟨#[c]⟩] w λe w'=>e=.returned (.int .i64 (Lib.countByte s.data.toList c))∧w'=w:=Any.strings_Count_one Tryz.apj s c w
end
end Go.Proofs
namespace Go.Proofs.YtgbmhohlapmgbaaGreatDoor.vx
noncomputable section
open Go Go.RowKit Go.Proofs
def sizeBuilder:(a7.info? 137).map (·.size)=J 2:=by kernel_rfl
def liesBuilder:liesAt a7 a7.depth 137 (2/a7.cellsOf 137) 0 137 1=W:=by kernel_rfl
set_option maxHeartbeats 1000000 in
set_option maxRecDepth 100000 in
def amB(b:U)(w:bD)(c:w.cell? ⟨b,0,O⟩=J (.pointer (J ⟨b,0,O⟩))):dw a7 140 #[.pointer (J ⟨b,0,O⟩)] w λe w'=>e=.returned (.tuple #[])∧w'=w:=by let⟨j,a,_⟩:=oh.1 sizeBuilder;go_enter Tryz.func140,Tryz.ntmps140;go_wp2;rw[Lib.run_neq_ptr_same w _ TC a];go_wp2;go_end0;exact⟨rfl,rfl⟩
set_option maxHeartbeats 1000000 in
set_option maxRecDepth 100000 in
def amC(b:U)(w:bD)(g:w.cell? ⟨b,0,O⟩=J (.pointer O))(a:w.shape? b=J (137,2))(f:w.frozen? ⟨b,0,O⟩=I):dw a7 140 #[.pointer (J ⟨b,0,O⟩)] w λe w'=>e=.returned (.tuple #[])∧w'=w.setCell ⟨b,0,O⟩ (.pointer (J ⟨b,0,O⟩)):=by let⟨j,d,c⟩:=oh.1 sizeBuilder;go_enter Tryz.func140,Tryz.ntmps140;go_wp2;rw[Lib.run_to_unsafe w ⟨b,0,O⟩ TC TD d (by rw[c];decide) a (Nat.zero_lt_succ 1)];simp only[oj];rw[nh];go_wp2;rw[run_callFunc_extern Tryz.func197 (by kernel_rfl) (by kernel_rfl) (by kernel_rfl) (e:=axG) (by kernel_rfl)];rw[Lib.run_noEscape];simp only[oj];rw[nh];go_wp2;rw[Lib.run_from_unsafe w ⟨b,0,O⟩ TD TC d a liesBuilder];simp only[oj];rw[nh];go_wp2;go_end0;exact⟨rfl,rfl⟩
def amD(B b:U)(a:L az)(w:bD)(h:uU 137 5 B b a w):dw a7 140 #[.pointer (J ⟨b,0,O⟩)] w λe w'=>e=.returned (.tuple #[])∧(TE 137 5 B b (.pointer (J ⟨b,0,O⟩)) a w'∧cn B w w'):=by
 rcases h with h|h
 refine(amC b w h.cell0 h.shape h.frozen0).mono ?_;rintro e w' ⟨rfl,rfl⟩;exact⟨rfl,h.used _,(lv B w).setCell (p:=⟨b,0,O⟩) h.1 _⟩;refine(amB b w h.cell0).mono ?_;rintro e w' ⟨rfl,rfl⟩;exact⟨rfl,h,lv B _⟩
def infoByte:(a7.info? 5).map (λi=>(i.zero,i.size,i.bytes))=J (J (.int .u8 0),1,1):=by kernel_rfl
set_option maxHeartbeats 2000000 in
set_option maxRecDepth 100000 in
def writeString(B b:U)(l:L az)(s:mc)(w:bD)(h:uU 137 5 B b l w)(y:l.length+s.size≤140737488355328)(D:B≤w.heap.size):
  dw a7 84 #[.pointer (J ⟨b,0,O⟩),.string s] w λe w'=>e=.returned (.tuple #[.int .i64 s.size,.nilIface])∧(TE 137 5 B b (.pointer (J ⟨b,0,O⟩)) (l++Lib.strCells s) w'∧cn B w w'):=by
 obtain⟨E,hi,o,q,r⟩:=info_parts infoByte
 go_enter Tryz.func84,Tryz.ntmps84
 go_wp2_with (go_at_call 140;refine(amD B b l _ h).mono ?_)
 rintro e m ⟨rfl,h1,j⟩
 obtain⟨z,v,d,i,t⟩:=h1
 have c0:m.cell? ⟨b,0,O⟩=J (.pointer (J ⟨b,0,O⟩)):=by rw[TF d];rfl
 have c1:m.cell? ⟨b,1,O⟩=J v:=by rw[TF d];rfl
 go_wp2_with (at_builtin;refine Lib.wpList_append_own_string _ rfl _ _ 135 9 rfl B 5 E oi r7 hi o q r _ _ _ rfl i s rfl ?c3 ?c4 ?c5 ?_)
 case c3=>unfold maxLen;omega
 case c4=>omega
 case c5=>have:=j.size;omega
 intro F n a c _
 have u:b<m.heap.size:=by
  rcases gW b m.heap.size with x|x
  ·exact x
  ·simp[Array.getElem?_eq_none x]at d
 have f:n.heap[b]?=J (.cells #[.pointer (J ⟨b,0,O⟩),v] 137 (0,0)):=by
  rw[c.block b u (λe=>t e.symm)]
  exact d
 have d0:n.cell? ⟨b,0,O⟩=J (.pointer (J ⟨b,0,O⟩)):=by rw[TF f];rfl
 have d1:n.cell? ⟨b,1,O⟩=J v:=by rw[TF f];rfl
 have f1:n.frozen? ⟨b,1,O⟩=I:=Lib.frozen_of_heap f 1
 obtain⟨A,C,cap,rfl⟩:∃A C cap,F=.slice A C cap:=by
  rcases a.2 with⟨hv,_⟩|⟨g,cap,G,hv,_⟩
  ·exact⟨_,_,_,hv⟩
  ·exact⟨_,_,_,hv⟩
 go_wp2
 go_ret2
 refine⟨rfl,?_,?_⟩
 ·exact Lib.BuilderAt.put (T:=137) (e:=5) z f (bs':=l++Lib.strCells s) (by simpa[Lib.strCells_length]using a) (by decide)
 ·exact(j.grown c (by have:=j.size;omega) (λk hk=>(i.lt k hk).1)).setCell (p:=⟨b,1,O⟩) z _
def lf(g:U→L ai):U→L ai|0=>[]|k+1=>lf g k++g k
def amE(g:U→L ai):∀{a b:U},a≤b→(lf g a).length≤(lf g b).length:=by
 intro a b h;induction h with|refl=>exact dD _|step _ c=>simp only[lf,lr];omega
def ZQ{T e:aW}{B b:U}{p:az}{f:L az}{w:bD}(h:TE T e B b p f w)(o:Obj):TE T e B b p f (w.alloc o):=by have c:=h.lt;let⟨g,v,i,a,d⟩:=h;exact⟨g,v,(Fs w o b c).trans i,a.alloc o,d⟩
def amF{T e:aW}{B b:U}{a:L az}{w:bD}(h:uU T e B b a w)(o:Obj):uU T e B b a (w.alloc o):=h.elim (λh=>.inl (ZQ h o)) (λh=>.inr (ZQ h o))
set_option maxHeartbeats 2000000 in
set_option maxRecDepth 100000 in
def amG(n:M)(ad:dt)(len cap:U)(hsp:ad.spot=O)(u:U→ao)(ky' g:U→L ai)(w:bD)(hlc:len≤cap)(hln:len<4611686018427387904) (h0:∀k,k<len→w.cell? ⟨ad.block,ad.off+k*3,O⟩=J (.bool (u k)))(h1:∀k,k<len→w.cell? ⟨ad.block,ad.off+k*3+1,O⟩=J (.string ⟨(ky' k).toArray⟩))(h2:∀k,k<len→w.cell? ⟨ad.block,ad.off+k*3+2,O⟩=J (.string ⟨(g k).toArray⟩)) (hb:ad.block<w.heap.size)(awN:(lf g len).length≤140737488355328):dw a7 44 #[.agg #[.int .i64 n,.slice (J ad) len cap]] w λe w'=>e=.returned (.string ⟨(lf g len).toArray⟩)∧cn w.heap.size w w':=by
 obtain⟨bl,off,sp⟩:=ad;subst hsp;go_enter Tryz.func44,Tryz.ntmps44;go_wp2;go_loopw [9] (λi wr=>∃k:U,k≤len∧i=.int .i64 k∧uU 137 5 (w.heap.size+1) (w.heap.size+1) (LV (lf g k)) wr∧cn w.heap.size w wr∧w.heap.size+1<wr.heap.size) (λi _=>len-(intOf i).toNat)
 case atStart=>
  have hf:=awm 137 5 (w.alloc (.cells #[.int .i64 n,.slice (J ⟨bl,off,O⟩) len cap] 48));have e1:(w.alloc (.cells #[.int .i64 n,.slice (J ⟨bl,off,O⟩) len cap] 48)).heap.size=w.heap.size+1:=by simp
  rw[e1]at hf;exact⟨0,fm _,rfl,hf,((lv _ w).alloc (dD _) _).alloc (by simp) _,by simp⟩
 case round=>
  obtain⟨k,hk,rfl,hI',hbw,hsz⟩:=hrel;by_cases hlt:k<len
  ·have c0:=(hbw.cell (p:=⟨bl,off+k*3,O⟩) hb).trans (h0 k hlt);have c1:=(hbw.cell (p:=⟨bl,off+k*3+1,O⟩) hb).trans (h1 k hlt);have c2:=(hbw.cell (p:=⟨bl,off+k*3+2,O⟩) hb).trans (h2 k hlt);have hI2:=amF hI' (.cells #[.bool (u k),.string ⟨(ky' k).toArray⟩,.string ⟨(g k).toArray⟩] 59);have hl:=amE g (show k+1≤len by omega);simp only[lf,lr]at hl;go_wp2_with (go_at_call 84;refine(writeString (w.heap.size+1) (w.heap.size+1) _ _ _ hI2 (by grind [Lib.size_eq,Lib.byteCells_length]) (uV (Nat.le_of_lt hsz) (by simp))).mono ?_);rintro e W1 ⟨rfl,hW1,b1⟩;have hW2:uU 137 5 (w.heap.size+1) (w.heap.size+1) (LV (lf g (k+1))) W1:=(by rw[Lib.strCells_eq,←Lib.byteCells_append]at hW1;exact Or.inr hW1);have qS:cn w.heap.size w W1:=(hbw.alloc (by omega) _).trans (b1.mono (aeS _));have hs1:w.heap.size+1<W1.heap.size:=(by have:=b1.size;simp at this;omega);go_wp2;go_roundw;case rel=>exact⟨k+1,hlt,by go_num,hW2,qS,hs1⟩
   case measure=>simp[intOf];omega
  ·obtain rfl:k=len:=(by omega);go_wp2_with (go_at_call 85;refine(Tryz.Builder_String_any (w.heap.size+1) (w.heap.size+1) (lf g k) _ hI' (by omega)).mono ?_);rintro e W1 ⟨rfl,b1⟩;go_wp2;go_ret;exact⟨rfl,hbw.trans (b1.mono (aeS _))⟩
def Hd(p:Prop):Prop:=p
def Hd.out{p:Prop}(h:Hd p):p:=h
set_option maxHeartbeats 2000000 in
set_option maxRecDepth 100000 in
def amH(n:M)(ad:Q dt)(len cap:U)(hl:Hd (len=0))(x:L ai)(hx:Hd (x=[]))(w:bD):
  dw a7 44 #[.agg #[.int .i64 n,.slice ad len cap]] w λe w'=>e=.returned (.string ⟨x.toArray⟩)∧cn w.heap.size w w':=by
 go_enter Tryz.func44,Tryz.ntmps44
 go_wp2
 go_loopw [9] (λi wr=>∃k:U,k≤len∧i=.int .i64 k∧uU 137 5 (w.heap.size+1) (w.heap.size+1) (LV x) wr∧cn w.heap.size w wr∧w.heap.size+1<wr.heap.size) (λi _=>0)
 case atStart=>
  have hf:=awm 137 5 (w.alloc (.cells #[.int .i64 n,.slice ad len cap] 48))
  have e1:(w.alloc (.cells #[.int .i64 n,.slice ad len cap] 48)).heap.size=w.heap.size+1:=by simp
  rw[e1]at hf
  have hf:uU 137 5 (w.heap.size+1) (w.heap.size+1) (LV x) ((w.alloc (.cells #[.int .i64 n,.slice ad len cap] 48)).alloc (.cells #[.pointer O,.slice O 0 0] 137)):=by rw[hx.out];exact hf
  exact⟨0,fm _,rfl,hf,((lv _ w).alloc (dD _) _).alloc (by simp) _,by simp⟩
 case round=>
  obtain⟨k,hk,rfl,hI',hbw,hsz⟩:=hrel
  obtain rfl:k=len:=by have:=hl.out;omega
  have hlt:¬k<k:=Nat.lt_irrefl k
  have hxl:x.length≤140737488355328:=by rw[hx.out];exact fm _
  go_wp2_with (go_at_call 85;refine(Tryz.Builder_String_any (w.heap.size+1) (w.heap.size+1) x _ hI' (by omega)).mono ?_)
  rintro e W1 ⟨rfl,b1⟩
  go_wp2
  go_ret
  exact⟨rfl,hbw.trans (b1.mono (aeS _))⟩
def amI(n:M)(c:Q dt)(a off:U)(len cap:U)(d:0<len→c=J ⟨a,off,O⟩)(u:U→ao)(i g:U→L ai)(w:bD)(f:len≤cap)(h:len<4611686018427387904) (j:∀k,k<len→w.cell? ⟨a,off+k*3,O⟩=J (.bool (u k)))(h1:∀k,k<len→w.cell? ⟨a,off+k*3+1,O⟩=J (.string ⟨(i k).toArray⟩))(h2:∀k,k<len→w.cell? ⟨a,off+k*3+2,O⟩=J (.string ⟨(g k).toArray⟩)) (l:0<len→a<w.heap.size)(b:(lf g len).length≤140737488355328):dw a7 44 #[.agg #[.int .i64 n,.slice c len cap]] w λe w'=>e=.returned (.string ⟨(lf g len).toArray⟩)∧cn w.heap.size w w':=by
 rcases Nat.eq_zero_or_pos len with m|hp
 rw[m];exact amH n c 0 cap rfl [] rfl w;obtain rfl:=d hp;exact amG n ⟨a,off,O⟩ len cap rfl u i g w f h j h1 h2 (l hp) b
section
open Go.Vs
def ur:L (L D)→Q (L (ao×L ai×L ai))
 |[]=>J []|[.bool u,.str k,.str g]::r=>match ur r with|some l=>J ((u,k,g)::l)|none=>O
 |_::_=>O
def xq(l:L (ao×L ai×L ai)):L ai:=l.flatMap λp=>p.2.2
def Ep:D→Q (L (L D))
 |.nil=>J []|.sl e xs=>match Nat.beq e 3 with|true=>J xs|false=>O
 |_=>O
def amM{w:bD}{Z:U→Prop}{d:D}{rows:L (L D)}{v:az}(h:Ep d=J rows)(hd:a6 w Z d v):∃(a:Q dt)(f off cap:U),v=.slice a rows.length cap∧(0<rows.length→a=J ⟨f,off,O⟩∧Z f)∧rows.length≤cap∧∀(k:U)r,rows[k]?=J r→ed w Z r f (off+k*3):=by
 unfold Ep at h;split at h;cases h;exact⟨O,0,0,0,hd,λh=>bX h (Nat.lt_irrefl 0),dD _,λk r g=>by simp at g⟩;split at h;rename_i e xs i;cases h;cases Nat.eq_of_beq_eq_true i;let⟨a,cap,j,c,l,m⟩:=(a6.fR (e:=3) rfl).1 hd;refine⟨J a,a.block,a.off,cap,j,λp=>?_,l,λk r g=>(m.get g).2⟩;rcases c with c|⟨c,n⟩
 omega;exact⟨by let⟨b,o,q⟩:=a;cases c;rfl,n⟩;cases h;cases h
def xt:pD
 |[.one _],_=>O|[.agg [.d (.int .i64 _),.d dd]],[]=>match(match Ep dd with|some rows=>ur rows|none=>O)with
  |some l=>match fi l.length 4611686018427387903,fi (xq l).length 140737488355328 with|true,W=>J {v:=.one (.d (.str (xq l))),boxes:=[]}|_,_=>O
  |none=>O
 |_,_=>O
def ZS:∀{rows:L (L D)}{l:L (ao×L ai×L ai)},ur rows=J l→rows.length=l.length∧∀(k:U)p,l[k]?=J p→rows[k]?=J [.bool p.1,.str p.2.1,.str p.2.2]|[],l,h=>by simp only[ur,kI]at h;grind|x::xs,l,h=>by unfold ur at h;split at h;rename_i heq;cases heq;rename_i u k g r heq;cases heq;split at h;rename_i b a;cases h;let⟨h1,h2⟩:=ZS a;grind;cases h;cases h
def ZT(l:L (ao×L ai×L ai)):∀k,k≤l.length→lf (λi=>((l[i]?).getD default).2.2) k=xq (l.take k)|0,_=>by simp[lf,xq]|k+1,h=>by have:l[k]?=J l[k]:=du (by omega);have e:l.take (k+1)=l.take k++[l[k]]:=(List.take_append_getElem (by omega)).symm;rw[lf,ZT l k (by omega),e];simp only[xq,uW,List.flatMap_cons,List.flatMap_nil,List.append_nil,this,eB]
def amN:gn a7 44 xt:=by
 intro args boxes r f w vals β ω Z C D S a;unfold xt at f;split at f;cases f
 ·rename_i n dd;split at f
  ·rename_i l E;split at E;rotate_left;cases E;rename_i rows j;split at f;rename_i o q;cases f;have o:=xX o;have q:=xX q;let⟨g,s⟩:=ZS E;have T:=a.args 0;obtain⟨ws,B,h1,h2,h3⟩:∃ws:bv az,vals.getD 0 undef=.agg ws∧aG (λu c=>aH (cm a7 0 w vals β ω Z) β Z (cA [.agg [.d (.int .i64 n),.d dd]] []) {tmps:=#[],defers:=[]} w c u) ws.toList [.d (.int .i64 n),.d dd]∧True∧True:=(by let⟨ws,B,V⟩:=T;exact⟨ws,B,V,trivial,trivial⟩);let⟨X⟩:=ws;match X,h1 with
   |[v0,v1],h1=>
    let⟨F,G,_⟩:=h1;have F:v0=.int .i64 n:=F;have G:a6 w Z dd v1:=G;let⟨K,N,off,cap,Y,P,q3,q4⟩:=amM j G;subst F;subst Y;have m:vals=#[.agg #[.int .i64 n,.slice K rows.length cap]]:=by
     apply Array.ext';have:vals.toList.length=1:=(by simpa using C);match hv:vals.toList,this with|[v],_=>have:vals.getD 0 undef=v:=(by rw[Fa,←oc,hv];rfl);rw[this]at B;rw[B]
    subst m;have cells:∀k,k<rows.length→∃p,l[k]?=J p∧ed w Z [.bool p.1,.str p.2.1,.str p.2.2] N (off+k*3):=(by intro k hk;have t:k<l.length:=(by rw[←g];exact hk);exact⟨l[k],du t,q4 k _ (s k l[k] (du t))⟩);have R:=ZT l l.length (dD _);rw[xS]at R;have walk:=amI n K N off rows.length cap (λh=>(P h).1) (λi=>((l[i]?).getD default).1) (λi=>((l[i]?).getD default).2.1) (λi=>((l[i]?).getD default).2.2) w q3 (by omega) (λk hk=>by let⟨p,x,⟨v,y,z⟩,_⟩:=cells k hk;rw[y];simp only[x,eB];exact bz J z) (λk hk=>by let⟨p,x,_,⟨v,y,z⟩,_⟩:=cells k hk;rw[y];simp only[x,eB];exact bz J z) (λk hk=>by let⟨p,x,_,_,⟨v,y,z⟩,_⟩:=cells k hk;rw[show off+k*3+2=off+k*3+1+1 by omega,y];simp only[x,eB];exact bz J z) (λh=>a.cD _ (P h).2) (by grind);refine walk.mono ?_;rintro e w' ⟨rfl,A⟩;refine⟨_,_,_,_,rfl,Ac a D A.os A.tape A.output A.size (λb H _=>A.block b H) (K₀:=cm a7 0 w #[] β ω Z) (β₀:=β) (Z₀:=Z) (s₀:=cA [] []) (a₀:={tmps:=#[],defers:=[]}) (w₀:=w) ?_ rfl rfl rfl⟩;refine⟨rfl,?_⟩;show LR _=LR _;rw[g,R]
   cases f
  cases f
 cases f
def amO:jP a7 44 xt:=oO Tryz.func44 (by kernel_rfl) rfl amN
end
section
open Go.Vs
def jv{vals:bv az}{l:L az}(a:vals.size=l.length)(h:∀i,i<l.length→vals.getD i undef=l.getD i undef):vals=l.toArray:=by apply Array.ext;simpa using a;intro i h1 h2;have:=h i (by omega);simp only[Fa,Array.getElem?_eq_getElem h1,iy,eB]at this;rw[du (by omega)]at this;simpa using this
def ZU:pD|[.one (.d (.str s)),.one (.d (.int .u8 c))],[]=>J {v:=.one (.d (.int .i64 (dW s c.toNat.toUInt8))),boxes:=[]}|_,_=>O
def amP:jP a7 284 ZU:=by
 intro args boxes r b w vals β ω Z d f g a;unfold ZU at b;split at b;rename_i s c;cases b;have hv:vals=#[.string ⟨s.toArray⟩,.int .u8 c]:=jv (l:=[.string ⟨s.toArray⟩,.int .u8 c]) d λi hi=>by
  match i,hi with|0,_=>exact(a.args 0).2|1,_=>exact(a.args 1).2
 subst hv;refine .inr ⟨.int .i64 (dW s c.toNat.toUInt8),w,_,_,Z,?_,Ac a f rfl rfl rfl (dD _) (λ_ _ _=>rfl) (K₀:=cm a7 0 w #[] β ω Z) (β₀:=β) (Z₀:=Z) (s₀:=cA [] []) (a₀:={tmps:=#[],defers:=[]}) (w₀:=w) ⟨rfl,rfl⟩ rfl rfl rfl⟩;rw[run_callFunc_extern Tryz.func284 (by kernel_rfl) (by kernel_rfl) (by kernel_rfl) (e:=axH) (by kernel_rfl)];rw[Lib.run_indexByteString];rfl;cases b
end
section
open Go.Sort
def SK(kd:U→M)(a:U→L ai):U→L (L ai)|0=>[]|k+1=>if kd k=5 then SK kd a k++[a k]else SK kd a k
def KT(kd:U→M)(a:U→L ai):∀k,(SK kd a k).length≤k|0=>dD _|k+1=>by have:=KT kd a k;unfold SK;split<;>simp<;>omega
def aaX:(a7.info? 9).map (λi=>(i.zero,i.size,i.bytes))=J (J (.string ⟨#[]⟩),1,16):=by kernel_rfl
set_option maxHeartbeats 2000000 in
set_option maxRecDepth 100000 in
def ao1(bl off len cap:U)(kd:U→M)(tx':U→L ai)(id:U→M)(p:Q dt)(w:bD)(hln:len<4294967296)(hp:p=J ⟨bl,off,O⟩∨len=0)(hb:p=J ⟨bl,off,O⟩→0<len→bl<w.heap.size) (h0:∀k,k<len→w.cell? ⟨bl,off+k*3,O⟩=J (.int .i64 (kd k)))(h1:∀k,k<len→w.cell? ⟨bl,off+k*3+1,O⟩=J (.string ⟨(tx' k).toArray⟩))(h2:∀k,k<len→w.cell? ⟨bl,off+k*3+2,O⟩=J (.int .i64 (id k))):
  dw a7 92 #[.slice p len cap] w λe w'=>Below w.heap.size w w'∧∃v,e=.returned v∧((SK kd tx' len=[]∧v=.slice O 0 0)∨SK kd tx' len≠[]∧∃g c,v=.slice (J ⟨g,0,O⟩) (SK kd tx' len).length c∧w.heap.size≤g∧(SK kd tx' len).length≤c∧g<w'.heap.size∧
   ∀(j:U)s,((SK kd tx' len).mergeSort λx y=>decide (x≤y))[j]?=J s→w'.cell? ⟨g,j,O⟩=J (.string ⟨s.toArray⟩)):=by
 obtain⟨i0,hi,hz0,hz1,hz2⟩:=info_parts aaX
 go_enter Tryz.func92,Tryz.ntmps92
 go_wp2
 go_loopw [3,8] (λv i wr=>∃k:U,k≤len∧i=.int .i64 k∧wr.ownsRow w.heap.size 9 1 v (SK kd tx' k).length ((SK kd tx' k).map encStr)∧Below w.heap.size w wr∧(SK kd tx' k=[]→v=.slice O 0 0)) (λ_ i _=>len-(intOf i).toNat)
 case atStart=>exact⟨0,fm _,rfl,World.ownsRow_nil _ _ _ _,lv _ _,λ_=>rfl⟩
 case round=>
  obtain⟨k,hk,rfl,hown,hbw,hnil⟩:=hrel
  by_cases hlt:k<len
  ·obtain rfl:p=J ⟨bl,off,O⟩:=hp.resolve_right (by omega);have yx:=hb rfl (by omega);have c0:=(hbw.cell (p:=⟨bl,off+k*3,O⟩) yx).trans (h0 k hlt);have c1:=(hbw.cell (p:=⟨bl,off+k*3+1,O⟩) yx).trans (h1 k hlt);have c2:=(hbw.cell (p:=⟨bl,off+k*3+2,O⟩) yx).trans (h2 k hlt);by_cases MO:kd k=5
   ·go_wp2_with (first
      |(at_builtin;refine wpList_append_own _ rfl _ _ 50 rfl w.heap.size 9 i0 (.string ⟨#[]⟩) 1 16 Tryz.underlying50 hi hz0 hz1 hz2 rfl (by decide) _ _ _ rfl ((hown.alloc _).alloc _) ⟨wr.heap.size+1,0,O⟩ 1 1 [.string ⟨(tx' k).toArray⟩] rfl rfl ?c1 ?c2 ?c3 ?c4 ?c5 ?_)|go_in)
    case c2=>rfl
    case c3=>have:=KT kd tx' k;unfold maxLen;omega
    case c4=>have:=KT kd tx' k;omega
    case c5=>have:=hbw.size;omega
    ·intro v' w1 hown' hgrow _;have vI:Below w.heap.size w w1:=((hbw.alloc (by have:=hbw.size;omega) _).alloc (by have:=hbw.size;simp;omega) _).grown hgrow (by have:=hbw.size;simp;omega) (λq hq=>(hown.lt q hq).1);have hs:SK kd tx' (k+1)=SK kd tx' k++[tx' k]:=(by simp[SK,MO]);have hown2:w1.ownsRow w.heap.size 9 1 v' (SK kd tx' (k+1)).length ((SK kd tx' (k+1)).map encStr):=(by grind);clear hown' hgrow hown hnil c0 c1 c2;go_wp2;grind [aaT]
   ·have hs:SK kd tx' (k+1)=SK kd tx' k:=(by simp[SK,MO]);go_wp2;go_roundw;case rel=>exact⟨k+1,by omega,by simp,by rw[hs];exact hown.alloc _,hbw.alloc (by have:=hbw.size;omega) _,λh=>hnil (by rw[←hs];exact h)⟩
    grind [aaT]
  ·obtain rfl:k=len:=(by omega);by_cases hn:SK kd tx' k=[];·obtain rfl:=hnil hn;go_wp2_with (go_at_call 143;refine(Tryz.ao0 O 0 _).mono ?_);go_ret;simp_all
   ·rcases hown.2 with⟨rfl,h⟩|⟨g,c,cur,rfl,hbg,hg,hnc,hcm,hcs,htake⟩
    grind;·have hH:Holds encStr wr g 0 (SK kd tx' k).toArray:=(by intro j hj;have hj':j<(SK kd tx' k).length:=(by simpa using hj);refine⟨?_,?_⟩;have h1:(cur.toList.take ((SK kd tx' k).length*1))[j]?=((SK kd tx' k).map encStr)[j]? :=(by rw[htake]);grind [dm];simp[lw,hg]);have KX:g<wr.heap.size:=(oa.1 hg).1;go_wp2_with (go_at_call 143;refine(Tryz.slices_Sort_string g 0 c (SK kd tx' k) _ hH KX (by have:=KT kd tx' k;omega)).mono ?_);rintro e W1 ⟨rfl,n,os,rfl⟩;go_wp2;go_ret;refine⟨?_,_,rfl,.inr ⟨hn,g,c,rfl,hbg,hnc,?_,?_⟩⟩;refine⟨hbw.os,hbw.tape,hbw.output,?_,λq hq=>?_⟩;have:=hbw.size;simp[grow,putRow,mapBlock,LW];omega;have hne:g≠q:=(by omega);have hql:q<wr.heap.size:=om hq hbw.size;rw[←hbw.block q hq];grind [Sort.grow,Sort.putRow,Sort.mapBlock,LW];simp[grow,putRow,mapBlock,LW];omega;intro j s hj;have hjl:j<((SK kd tx' k).mergeSort λx y=>decide (x≤y)).length:=(gi.1 hj).1;have h1:=cell?_putRow encStr (LW wr n) g 0 (SK kd tx' k).toArray ((SK kd tx' k).mergeSort λx y=>decide (x≤y)).toArray hH (by simp) j (by simpa using hjl);grind [Sort.grow,dm]
end
def BY(B:U)(w:bD)(l:L ai)(v:az):Prop:=∃a cs fz cap,v=.slice (J ⟨a,0,O⟩) l.length cap∧B≤a∧w.heap[a]?=J (.cells cs 5 fz)∧∀(i:U)x,l[i]?=J x→cs[i]?=J (.int .u8 x.toNat)
theorem BY.keep{B:U}{w w':bD}{l:L ai}{v:az}(h:BY B w l v)(hk:∀(b:U)cs fz,w.heap[b]?=J (.cells cs 5 fz)→w'.heap[b]?=w.heap[b]?):BY B w' l v:=by let⟨a,cs,fz,cap,h1,h2,h3,c⟩:=h;exact⟨a,cs,fz,cap,h1,h2,by grind,c⟩
def RB(B g:U)(ps:L (ai×L ai))(w:bD):Prop:=∃cs a,w.heap[g]?=J (.cells cs 342 (0,0))∧cs.size=257∧(∀c:ai,∃v,cs[c.toNat]?=J v∧match Vs.dK ps c with|none=>v=.slice O 0 0|some l=>BY B w l v)∧cs[256]?=J a∧w.ownsRow B 9 1 a ps.length (ps.reverse.map λp=>.string ⟨#[p.1]⟩)
def KW:AC=(dk 257 (qH O 0 0)).toArray:=by kernel_rfl
set_option maxHeartbeats 4000000 in
set_option maxRecDepth 1000000 in
def apd(b q o cap:U)(ps:L (ai×L ai))(x0 x1 x2 x3:az)(el:aW)(fz:U×U)(w:bD)(m:U)(Z:ps.length=m)(hm:2≤m)(hm2:m≤1000)(hnd:(ps.map (·.1)).Nodup)(hcap:2*m≤cap) (hb:w.heap[b]?=J (.cells #[x0,x1,x2,x3,.slice (J ⟨q,o,O⟩) (2*m) cap] el fz)) (G:q<w.heap.size)(yx:b<w.heap.size) (h0:∀(k:U)p,ps[k]?=J p→w.cell? ⟨q,o+2*k,O⟩=J (.string ⟨#[p.1]⟩))(h1:∀(k:U)p,ps[k]?=J p→w.cell? ⟨q,o+(2*k+1),O⟩=J (.string ⟨p.2.toArray⟩))(S:∀p∈ps,2≤p.2.length):dw a7 255 #[.pointer (J ⟨b,0,O⟩)] w λe w'=>cn w.heap.size w w'∧∃g,e=.returned (.iface 343 (.pointer (J ⟨g,0,O⟩)))∧w.heap.size≤g∧g<w'.heap.size∧RB w.heap.size g ps w':=by
 let⟨i0,hi,hz0,hz1,hz2⟩:=info_parts aaX;have c4:w.cell? ⟨b,4,O⟩=J (.slice (J ⟨q,o,O⟩) (2*m) cap):=by simp[dm,hb]
 have T:∀k,k<m→ps[k]?=J (ps[k]?.getD default):=λk hk=>by grind
 have a0:=h0 0 _ (T 0 (by omega));have axi:(2*(m:M)==2)=I:=by simp;omega
 have hm3:¬(2*(m:M)=2):=by omega
 simp only[Nat.mul_zero,Nat.add_zero]at a0;go_enter Tryz.func255,Tryz.ntmps255;go_wp2;go_loopw [4,5] (λa i wr=>∃k:U,k≤m∧i=.int .i64 (2*k:U)∧a=.bool (decide (k=0))∧wr=w) (λ_ i _=>2*m-(intOf i).toNat);case atStart=>simp_all
 case round=>
  obtain⟨k,hk,rfl,rfl,rfl⟩:=hrel;by_cases hlt:k<m
  ·obtain⟨p,hp⟩:∃p,ps[k]?=J p:=⟨_,T k hlt⟩;have b0:=h0 k p hp;have b1:=h1 k p hp;have hp2:=S p (eA hp);have hne:((p.2.length:M) !=1)=W:=(by simp;omega);go_wp2
   ·go_roundw;case rel=>exact⟨k+1,by omega,by simp;omega,by simp,trivial⟩
    grind [aaT]
   grind
  ·obtain rfl:k=m:=(by omega);have hk0:decide (k=0)=I:=(by simp;omega);go_wp2;let⟨d,hmk,hown,H⟩:=run_make_own (P:=a7) wr wr.heap.size 50 9 i0 (.string ⟨#[]⟩) 1 Tryz.underlying50 hi hz0 hz1 .i64 .i64 k (by rw[hz2];omega) (by unfold maxLen;omega) (dD _);rw[hmk];simp only[oj];rw[nh];go_wp2;rw[show(AC.toList.set 256 (qH (J ⟨wr.heap.size,0,O⟩) 0 k))=((AC.toList.set 256 (qH (J ⟨wr.heap.size,0,O⟩) 0 k)).toArray).toList from rfl,Go.run_storeCells_new (P:=a7) d 342 AC ((AC.toList.set 256 (qH (J ⟨wr.heap.size,0,O⟩) 0 k)).toArray) (by kernel_rfl) (by simp) (by rw[KW];simp[Value.oneCell'])];simp only[oj];rw[Oper.upon_skip];go_wp2;obtain⟨r,QQ⟩:∃x,x=wr:=⟨_,rfl⟩;subst QQ;have hgs:d.heap.size<(d.alloc (.cells ((AC.toList.set 256 (qH (J ⟨r.heap.size,0,O⟩) 0 k)).toArray) 342)).heap.size:=(by simp);go_loopw [12] (λi wv=>∃B y,ps=B++y∧i=.int .i64 (2*(B.length:M)-2)∧cn r.heap.size r wv∧RB r.heap.size d.heap.size y wv∧d.heap.size<wv.heap.size) (λi _=>(intOf i+2).toNat);case atStart=>refine⟨ps,[],by simp,by rw[Z],?_,?_,by simp⟩;exact((lv r.heap.size r).grown H (dD _) (λq G=>by cases G)).alloc (by have:=H.size;omega) _;refine⟨(AC.toList.set 256 (.slice (J ⟨r.heap.size,0,O⟩) 0 k)).toArray,_,by simp[World.alloc,-World.alloc_eq],by simp[KW],λc=>⟨.slice O 0 0,?_,rfl⟩,by simp[KW],hown.alloc _⟩;have:=c.toNat_lt;rw[KW,Fj,List.getElem?_set_ne (by omega),List.getElem?_replicate];simp;omega
   case round=>
    obtain⟨B,y,f,rfl,n,⟨cs,tv,hg,hcs,K,ht,C⟩,KX⟩:=hrel;rcases List.eq_nil_or_concat B with rfl|⟨B,p,rfl⟩
    ·go_wp2;go_ret;exact⟨n,_,rfl,by have:=H.size;omega,KX,cs,tv,by simpa using hg,hcs,by simpa[f]using K,ht,by simpa[f]using C⟩
    ·rw[awn,List.append_assoc,List.singleton_append]at f;have hk:ps[B.length]?=J p:=(by rw[f];simp);have axl:B.length<k:=(by rw[←Z,f];simp);have b0:=(n.cell (p:=⟨q,o+2*B.length,O⟩) G).trans (h0 _ p hk);have b1:=(n.cell (p:=⟨q,o+(2*B.length+1),O⟩) G).trans (h1 _ p hk);have hp2:=S p (eA hk);have hno:Vs.dK y p.1=O:=(by rw[f,px,dO]at hnd;have h2:=(xV.1 (List.nodup_append.1 hnd).2.1).1;unfold Vs.dK;rw[List.find?_eq_none.2 (λx hx h=>h2 (kH.2 ⟨x,hx,by simpa using h⟩))]);let⟨v0,jN,hv1⟩:=K p.1;rw[hno]at hv1;subst hv1;have hpl:p.1.toNat<256:=p.1.toNat_lt;have cg:wr.cell? ⟨d.heap.size,p.1.toNat,O⟩=J (.slice O 0 0):=(by simp[dm,hg,jN]);have cg':wr.cell? ⟨d.heap.size,((⟨#[p.1]⟩:mc)[0]'(show 0<1 by decide)).toNat,O⟩=J (.slice O 0 0):=cg;have ape:((⟨#[p.1]⟩:mc)[0]'(show 0<1 by decide)).toNat<256:=hpl;have ct:wr.cell? ⟨d.heap.size,256,O⟩=J tv:=(by simp[dm,hg,ht]);have hfz:∀j,wr.frozen? ⟨d.heap.size,j,O⟩=I:=(by intro j;simp[lw,hg]);have hi2:2*(((B++[p]).length:U):M)-2=((2*B.length:U):M):=(by simp;omega);rw[awn,hi2];go_wp2;have hb0:((⟨#[p.1]⟩:mc)[0]'(show 0<1 by decide))=p.1:=rfl;simp only[hb0];rw[Go.Lib.run_eql_slice_nil_nil wr 0 0 oi];simp only[oj];rw[nh];go_wp2;have qU:=run_convert_bytes_back (P:=a7) (wr.alloc (.cells #[.int .u8 p.1.toNat] 5)) 135 9 5 ⟨wr.heap.size,0,O⟩ 1 [p.1] oi uT r7 (by simp_all [Addr.add]);simp only[List.length_singleton]at qU;rw[qU];simp only[oj];rw[nh]
     go_wp2_with (first
      |(at_builtin;refine wpList_append_own _ rfl _ _ 50 rfl r.heap.size 9 i0 (.string ⟨#[]⟩) 1 16 Tryz.underlying50 hi hz0 hz1 hz2 rfl (by decide) _ _ _ rfl ((C.alloc _).alloc _) ⟨wr.heap.size+1,0,O⟩ 1 1 [.string ⟨#[p.1]⟩] rfl rfl ?c1 ?c2 ?c3 ?c4 ?c5 ?_)|go_in)
     case c1=>
      intro j u hj;match j,hj with|0,hj=>simp_all [Addr.add]
     case c2=>intro u hu;simp at hu;subst hu;rfl
     case c3=>have:=bz uO f;simp at this;unfold maxLen;omega
     case c4=>have:=bz uO f;simp at this;omega
     case c5=>have:=n.size;simp;omega
     intro v' w2 s l _;have hne:J d.heap.size≠tv.ownBlock:=by
      intro h;rcases C.2 with⟨rfl,_⟩|⟨gg,V,cur,rfl,_,h9,_⟩
      cases h;simp_all [LX]
     have N:w2.heap[d.heap.size]?=J (.cells cs 342 (0,0)):=(by rw[l.block _ (by simp;omega) hne,Fs _ _ _ (by simp;omega),Fs _ _ _ KX];exact hg);have axn:w2.cell? ⟨d.heap.size,256,O⟩=J tv:=(by simp[dm,N,ht]);have f256:∀j,w2.frozen? ⟨d.heap.size,j,O⟩=I:=(by intro j;simp[lw,N]);have Gl:wr.heap.size+2≤w2.heap.size:=(by have:=l.size;simp at this;omega);obtain⟨z,A,mV,rfl⟩:∃z A mV,v'=.slice z A mV:=by
      rcases s.2 with⟨hv,_⟩|⟨_,_,_,hv,_⟩
      exact⟨_,_,_,hv⟩;simp_all
     let⟨g3,o3⟩:=Vs.heap_setCell (o:=256) (v:=.slice z A mV) N;have z3:(w2.setCell ⟨d.heap.size,256,O⟩ (.slice z A mV)).heap.size=w2.heap.size:=(by simp[World.setCell]);have hs2:(kh p.2.toArray).size=p.2.length:=(by simp[Av]);have g4:(TJ (w2.setCell ⟨d.heap.size,256,O⟩ (.slice z A mV)) 5 ⟨p.2.toArray⟩).heap[d.heap.size]?=J (.cells (cs.setIfInBounds 256 (.slice z A mV)) 342 (0,0)):=(by rw[awo _ _ _ _ (by rw[z3];omega)];exact g3);have e4:(TJ (w2.setCell ⟨d.heap.size,256,O⟩ (.slice z A mV)) 5 ⟨p.2.toArray⟩).cell? ⟨d.heap.size,p.1.toNat,O⟩=J (.slice O 0 0):=(by simp only[dm,g4];rw[LY (by omega)];exact jN);have f4:(TJ (w2.setCell ⟨d.heap.size,256,O⟩ (.slice z A mV)) 5 ⟨p.2.toArray⟩).frozen? ⟨d.heap.size,p.1.toNat,O⟩=I:=(by simp[lw,g4]);go_wp2;rw[Lib.run_convert_string_bytes (P:=a7) _ 9 135 5 ⟨p.2.toArray⟩ r7 oi uT];simp only[oj];rw[nh];go_wp2;generalize Y:(TJ (w2.setCell ⟨d.heap.size,256,O⟩ (.slice z A mV)) 5 ⟨p.2.toArray⟩).setCell ⟨d.heap.size,p.1.toNat,O⟩ (.slice (J ⟨w2.heap.size,0,O⟩) p.2.length (grownCap (w2.setCell ⟨d.heap.size,256,O⟩ (.slice z A mV)) p.2.length 0 5))=F;let⟨g5,o5⟩:=Vs.heap_setCell (o:=p.1.toNat) (v:=.slice (J ⟨w2.heap.size,0,O⟩) p.2.length (grownCap (w2.setCell ⟨d.heap.size,256,O⟩ (.slice z A mV)) p.2.length 0 5)) g4;rw[Y]at g5 o5;have zF:F.heap.size=w2.heap.size+1:=(by rw[←Y];simp[World.setCell,Lib.bytesWorld_size]);have R:w2.grownBy F (J d.heap.size):=(by refine⟨by rw[←Y];rfl,by rw[←Y];rfl,by rw[←Y];rfl,by omega,λq G hqn=>?_⟩;have hqg:q≠d.heap.size:=λh=>hqn (by rw[h]);rw[o5 q hqg,awo _ _ _ _ (by rw[z3];exact G),o3 q hqg]);have X:cn r.heap.size r w2:=((n.alloc (by have:=n.size;omega) _).alloc (by have:=n.size;simp;omega) _).grown l (by have:=n.size;simp;omega) (λq G=>(C.lt q G).1);have D:∀(b:U)cs fz,wr.heap[b]?=J (.cells cs 5 fz)→F.heap[b]?=wr.heap[b]? :=by
      intro q cs' fz hq5;have hql:q<wr.heap.size:=(oa.1 hq5).1;have h1:q≠d.heap.size:=(by rintro rfl;simp_all);have h2:J q≠tv.ownBlock:=by
       intro h;rcases C.2 with⟨rfl,_⟩|⟨gg,V,cur,rfl,_,h9,_⟩
       cases h;simp only[LX,kI]at h;simp_all
      rw[R.block q (by omega) (by simpa using h1),l.block q (by simp;omega) h2,Fs _ _ _ (by simp;omega),Fs _ _ _ hql]
     have t:w2.ownsRow r.heap.size 9 1 (.slice z A mV) (y.length+1) ((p::y).reverse.map λp=>.string ⟨#[p.1]⟩):=(by simpa using s);have E:F.ownsRow r.heap.size 9 1 (.slice z A mV) (y.length+1) ((p::y).reverse.map λp=>.string ⟨#[p.1]⟩):=by
      refine t.kept R (.inr ?_);intro h;rcases t.2 with⟨hv,_⟩|⟨gg,V,cur,hv,_,h9,_⟩
      rw[hv]at h;cases h;rw[hv]at h;simp only[LX,kI]at h;rw[h,N]at h9;cases h9
     have QR:RB r.heap.size d.heap.size (p::y) F:=(by refine⟨_,_,g5,by simpa using hcs,λc=>?_,?_,E⟩;by_cases hc:p.1=c;subst hc;refine⟨_,by rw[aeT (by simp;omega)],?_⟩;have:Vs.dK (p::y) p.1=J p.2:=(by simp[Vs.dK]);rw[this];refine⟨w2.heap.size,_,_,_,rfl,by have:=X.size;omega,by rw[o5 _ (by omega),←z3];exact Lib.bytesWorld_at_new _ _ _,λi x hx=>?_⟩;have hil:i<p.2.length:=(gi.1 hx).1;simp only[Lib.bytesCells];rw[Array.getElem?_append_left (by simpa using hil)];simp[hx];have QS:p.1.toNat≠c.toNat:=λh=>hc (UInt8.toNat_inj.1 h);have vC:=c.toNat_lt;let⟨v,q1,q2⟩:=K c;refine⟨v,by rw[LY QS,LY (by omega)];exact q1,?_⟩;have:Vs.dK (p::y) c=Vs.dK y c:=(by simp[Vs.dK,hc]);rw[this];split;rename_i h;rw[h]at q2;exact q2;rename_i h;rw[h]at q2;exact q2.keep D;rw[LY (by omega),aeT (by omega)]);have hBF:cn r.heap.size r F:=X.grown R (by have:=X.size;omega) (λq G=>by cases G;have:=H.size;omega);clear Y g5 o5 R D t E K s;go_roundw;case rel=>exact⟨B,p::y,f,rfl,hBF,QR,by omega⟩
     case measure=>simp[intOf];omega
def qx(ps:L (ai×L ai))(c:ai):L ai:=(Vs.dK ps c).getD [c]
def fe(ps:L (ai×L ai))(s:L ai):L ai:=s.flatMap (qx ps)
def gB(ps:L (ai×L ai))(s:L ai):U:=(s.map λc=>((Vs.dK ps c).map λl=>l.length-1).getD 0).sum
def gA(s:L ai)(l:L (ai×L ai)):U:=(l.map λp=>s.count p.1*(p.2.length-1)).sum
def apk(ps:L (ai×L ai))(s:L ai)(c:ai):gB ps (s++[c])=gB ps s+((Vs.dK ps c).map λl=>l.length-1).getD 0:=by simp[gB]
def apl(ps:L (ai×L ai))(s:L ai)(c:ai):fe ps (s++[c])=fe ps s++qx ps c:=by simp[fe]
theorem KY{ps:L (ai×L ai)}{c:ai}{l:L ai}(h:Vs.dK ps c=J l):∃p∈ps,p.1=c∧p.2=l:=by unfold Vs.dK at h;split at h;rename_i p hp;cases h;exact⟨p,awp hp,by have:=List.find?_some hp;simpa using this,rfl⟩;cases h
def apm{ps:L (ai×L ai)}(a:∀p∈ps,2≤p.2.length)(s:L ai):(fe ps s).length=s.length+gB ps s:=by
 induction s with
 |nil=>rfl|cons c s b=>
  have d:(fe ps (c::s)).length=(qx ps c).length+(fe ps s).length:=by simp[fe]
  have e:gB ps (c::s)=((Vs.dK ps c).map λl=>l.length-1).getD 0+gB ps s:=by simp[gB]
  rw[d,b,e];unfold qx;cases h:Vs.dK ps c with|none=>simp;omega|some l=>obtain⟨p,hp,_,rfl⟩:=KY h;have:=a p hp;simp;omega
def QT{ps:L (ai×L ai)}(a:(ps.map (·.1)).Nodup):∀s,gA s ps=gB ps s
 |[]=>by
  clear a;induction ps with|nil=>rfl|cons p ps b=>simpa[gA,gB]using b
 |c::s=>by
  have f:gB ps (c::s)=((Vs.dK ps c).map λl=>l.length-1).getD 0+gB ps s:=by simp[gB]
  rw[f,←QT a s];clear f;induction ps with|nil=>simp[gA,Vs.dK]|cons p ps b=>rw[dO,xV]at a;have b:=b a.2;have g:gA (c::s) (p::ps)=(c::s).count p.1*(p.2.length-1)+gA (c::s) ps:=(by simp[gA]);have i:gA s (p::ps)=s.count p.1*(p.2.length-1)+gA s ps:=(by simp[gA]);rw[g,i,b];by_cases d:p.1=c;have e:Vs.dK (p::ps) c=J p.2:=(by simp[Vs.dK,d]);have j:Vs.dK ps c=O:=(by unfold Vs.dK;rw[List.find?_eq_none.2 (λx k h=>a.1 (kH.2 ⟨x,k,by simpa[d]using h⟩))]);rw[e,j,List.count_cons,ax (by simp[d]),Nat.add_mul];simp;omega;have e:Vs.dK (p::ps) c=Vs.dK ps c:=(by simp[Vs.dK,d]);rw[e,List.count_cons,aK (by simpa using λh=>d h.symm)];simp;omega
def abf(s:L ai)(l:L (ai×L ai)):gA s l.reverse=gA s l:=by simp[gA]
def apn{ps:L (ai×L ai)}(s:L ai)(h:∀c∈s,Vs.dK ps c=O):fe ps s=s:=by
 induction s with|nil=>rfl|cons c s a=>simp_all [Proofs.YtgbmhohlapmgbaaGreatDoor.vx.fe,Proofs.YtgbmhohlapmgbaaGreatDoor.vx.qx]
def apo:(a7.info? 5).map (λi=>(i.zero,i.size,i.bytes))=J (J (.int .u8 0),1,1):=by kernel_rfl
structure rK(w w':World):Prop where
 heap:w'.heap=w.heap
 os:w'.os=w.os
 tape:w'.tape=w.tape
 output:w'.output=w.output
theorem rK.cell{w w':bD}(h:rK w w')(a:dt):w'.cell? a=w.cell? a:=by simp[dm,h.heap]
def rK.drew{w w':bD}(h:rK w w'):rK w w'.drew:=⟨h.heap,h.os,h.tape,h.output⟩
def rK.below{w w':bD}(h:rK w w')(B:U):cn B w w':=⟨h.os,h.tape,h.output,by rw[h.heap];exact dD _,λk _=>by rw[h.heap]⟩
set_option maxHeartbeats 4000000 in
set_option maxRecDepth 1000000 in
def abg(g:U)(ps:L (ai×L ai))(s:L ai)(Z:U→Prop)(w:bD)(F:(ps.map (·.1)).Nodup)(hpl:0<ps.length)(hm2:ps.length≤1000)(r:∀p∈ps,2≤p.2.length)
  (hsl:s.length≤1073741824)(hrl:(fe ps s).length≤1099511627776)(KX:g<w.heap.size)(hZ:∀b,Z b→b<w.heap.size)(hB:Vs.pM w Z ps g):
  dw a7 356 #[.pointer (J ⟨g,0,O⟩),.string ⟨s.toArray⟩] w λe w'=>cn w.heap.size w w'∧e=.returned (.string ⟨(fe ps s).toArray⟩):=by
 obtain⟨G,q,o,cap,QU,hq,Ey⟩:=hB
 have hs:(kh s.toArray).size=s.length:=by simp[Av]
 go_enter Tryz.func356,Tryz.ntmps356
 have H:∀p∈ps,Vs.dK ps p.1=J p.2:=by
  intro p hp
  unfold Vs.dK
  obtain⟨x,E⟩:∃x,ps.find? (λy=>y.1==p.1)=J x:=by
   cases h:ps.find? (λy=>y.1==p.1)with
   |none=>grind
   |some x=>exact⟨x,rfl⟩
  rw[E]
  have h1:=awp E
  have h2:x.1=p.1:=by grind
  have:x=p:=by
   obtain⟨a,ha,rfl⟩:=awq.1 h1
   obtain⟨b,hb,rfl⟩:=awq.1 hp
   have:a=b:=(List.getElem_inj (i:=a) (j:=b) (h₀:=by simpa using ha) (h₁:=by simpa using hb) F).1 (by simpa using h2)
   subst this;rfl
  rw[this]
 have z:=apm r s
 have K:∀k,gA s (ps.reverse.take k)≤gB ps s:=by
  intro k
  rw[←QT F s,←abf s ps]
  grind [Proofs.YtgbmhohlapmgbaaGreatDoor.vx.gA,l7]
 by_cases h8:(ps.length:M)*8≤(s.length:M)
 case' pos=>
  go_wp2
  go_loopw [5,6,32] (λn a i wr=>∃k:U,k≤ps.length∧i=.int .i64 k∧n=.int .i64 ((s.length+gA s (ps.reverse.take k):U):M)∧a=.bool ((ps.reverse.take k).any λp=>s.count p.1 !=0)∧rK w wr) (λ_ _ i _=>ps.length-(intOf i).toNat)
  case atStart=>exact⟨0,fm _,rfl,by simp[gA],by simp,⟨rfl,rfl,rfl,rfl⟩⟩
  case' round=>
   obtain⟨k,hk,rfl,rfl,rfl,f⟩:=hrel
   have QU:=(f.cell _).trans QU
   by_cases A:k<ps.length
   ·obtain⟨p,hp⟩:∃p,ps.reverse[k]?=J p:=⟨_,du (by simpa using A)⟩
    have QV:p∈ps:=List.mem_reverse.1 (eA hp)
    have Bl:=Ey k p.1 (by grind)
    obtain⟨v0,B,t⟩:=G p.1
    rw[H p QV]at t
    obtain⟨bb,oo,cc,rfl,hbb,hbc⟩:=t
    have ht:ps.reverse.take (k+1)=ps.reverse.take k++[p]:=by rw[TG,hp];rfl
    have S:gA s (ps.reverse.take (k+1))=gA s (ps.reverse.take k)+s.count p.1*(p.2.length-1):=by rw[ht];simp[gA]
    have hA1:=K (k+1)
    have hp2:=r p QV
    obtain⟨d,hd⟩:∃d,p.2.length=d+1:=⟨p.2.length-1,by omega⟩
    obtain⟨c,hc⟩:∃c,s.count p.1=c:=⟨_,rfl⟩
    have X:Lib.countByte (kh s.toArray).data.toList p.1=c:=by rw[←hc];rfl
    obtain⟨N,hN⟩:∃N,s.length+gA s (ps.reverse.take k)=N:=⟨_,rfl⟩
    obtain⟨av,hav⟩:∃av,((ps.reverse.take k).any λp=>s.count p.1 !=0)=av:=⟨_,rfl⟩
    obtain⟨e,he⟩:∃e,c*d=e:=⟨_,rfl⟩
    have hN1:s.length+gA s (ps.reverse.take (k+1))=N+e:=by grind
    have hN2:N+e≤1099511627776:=by omega
    have m:((ps.reverse.take (k+1)).any λp=>s.count p.1 !=0)=(av||c !=0):=by grind
    have oG:(c:M)*((p.2.length:M)-1)=(e:M):=by rw[hd,←he];simp
    have Bo:0≤(c:M)*((p.2.length:M)-1):=by omega
    have yu:(c:M)*((p.2.length:M)-1)≤1099511627776:=by omega
    have hdl:c=0∨p.2.length≤1099511627777:=by
     rcases Nat.eq_zero_or_pos c with h|h
     ·exact .inl h
     ·right;have:=Nat.le_mul_of_pos_left d h;omega
    rw[hN,hav]
    have Bl:=(f.cell _).trans Bl
    have B:=(f.cell _).trans B
    have ape:((⟨#[p.1]⟩:mc)[0]'(show 0<1 by decide)).toNat<256:=p.1.toNat_lt
    have axo:wr.cell? ⟨g,((⟨#[p.1]⟩:mc)[0]'(show 0<1 by decide)).toNat,O⟩=_:=B
    clear K H z G Ey F r hA1 S ht hp hbc hN hav hc he hd QV
    by_cases hc0:c=0
    ·subst hc0
     go_wp2_with (first|(go_at_call 358;refine(Tryz.strings_Count_one ⟨s.toArray⟩ p.1 _).mono ?_;rintro e w' ⟨rfl,rfl⟩;rw[X])|go_in)
     go_roundw
     case rel=>exact⟨k+1,by omega,by simp,by rw[hN1];simp at oG ⊢;omega,by rw[m];simp,f⟩
     grind [aaT]
    ·have hcb:((c:M) !=0)=W:=by simp;omega
     go_wp2_with (first|(go_at_call 358;refine(Tryz.strings_Count_one ⟨s.toArray⟩ p.1 _).mono ?_;rintro e w' ⟨rfl,rfl⟩;rw[X])|go_in)
     go_region
     have hsd:=f.drew
     go_wp2
     go_roundw
     case rel=>exact⟨k+1,by omega,by simp,by rw[hN1];simp,by rw[m];simp[hc0],hsd⟩
     grind [aaT]
   have hkl:k=ps.length:=by omega
   subst hkl
   have hA:s.length+gA s (ps.reverse.take ps.length)=(fe ps s).length:=by rw[aeJ (by simp),abf,QT F,z]
   have T:((ps.reverse.take ps.length).any λp=>s.count p.1 !=0)=s.any λc=>(Vs.dK ps c).isSome:=by
    grind [aeJ,Option.isSome_iff_exists,Proofs.YtgbmhohlapmgbaaGreatDoor.vx.KY]
   rw[hA,T]
   clear hA T hk A
   rename_i QU
 case' neg=>
  go_wp2
  go_loopw [5,6,10] (λn a i wr=>∃k:U,k≤s.length∧i=.int .i64 k∧n=.int .i64 ((s.length+gB ps (s.take k):U):M)∧a=.bool ((s.take k).any λc=>(Vs.dK ps c).isSome)∧rK w wr) (λ_ _ i _=>s.length-(intOf i).toNat)
  case atStart=>exact⟨0,fm _,rfl,by simp[gB],by simp,⟨rfl,rfl,rfl,rfl⟩⟩
  case' round=>
   obtain⟨k,hk,rfl,rfl,rfl,f⟩:=hrel
   by_cases A:k<s.length
   ·obtain⟨c,hc⟩:∃c,s[k]?=J c:=⟨_,du A⟩
    obtain⟨v0,B,t⟩:=G c
    have ht:s.take (k+1)=s.take k++[c]:=by rw[TG,hc];rfl
    have hBk:gB ps (s.take (k+1))≤gB ps s:=by
     conv=>rhs;rw[←l7 (k+1) s]
     simp only[gB,px,List.sum_append]
     omega
    obtain⟨N,hN⟩:∃N,s.length+gB ps (s.take k)=N:=⟨_,rfl⟩
    obtain⟨av,hav⟩:∃av,((s.take k).any λc=>(Vs.dK ps c).isSome)=av:=⟨_,rfl⟩
    have m:((s.take (k+1)).any λc=>(Vs.dK ps c).isSome)=(av||(Vs.dK ps c).isSome):=by grind
    have S:=apk ps (s.take k) c
    rw[←ht]at S
    have hix:(⟨s.toArray⟩:mc)[k]'(by rw[hs];exact A)=c:=by
     grind [aws]
    have B:=(f.cell _).trans B
    have vC:=c.toNat_lt
    rw[hN,hav]
    cases hr:Vs.dK ps c with
    |none=>
     rw[hr]at t S m
     subst t
     have hN1:s.length+gB ps (s.take (k+1))=N:=by grind
     rw[Option.isSome_none,Bool.or_false]at m
     clear K H z G Ey F r S ht hN hav hr hBk
     go_wp2
     rw[TL wr 135 5 O 0 0 oi]
     simp only[oj]
     rw[nh]
     go_wp2
     go_roundw
     case rel=>exact⟨k+1,by omega,by simp,by rw[hN1],by rw[m],f⟩
     grind [aaT]
    |some l=>
     rw[hr]at t S m
     obtain⟨bb,oo,cc,rfl,hbb,hbc⟩:=t
     obtain⟨p,hp,_,Y⟩:=KY hr
     have hl2:2≤l.length:=by grind
     have hN1:s.length+gB ps (s.take (k+1))=N+(l.length-1):=by rw[S];simp;omega
     have hN2:N+(l.length-1)≤1099511627776:=by omega
     rw[Option.isSome_some,Bool.or_true]at m
     clear K H z G Ey F r S ht hN hav hr hBk hbc hp Y
     go_wp2
     rw[TL wr 135 5 (J ⟨bb,oo,O⟩) l.length cc oi]
     simp only[oj]
     rw[nh]
     go_wp2
     go_roundw
     case rel=>exact⟨k+1,by omega,by simp,by rw[hN1];simp;omega,by rw[m],f⟩
     grind [aaT]
   have hkl:k=s.length:=by omega
   subst hkl
   have hA:s.length+gB ps (s.take s.length)=(fe ps s).length:=by grind
   have T:((s.take s.length).any λc=>(Vs.dK ps c).isSome)=s.any λc=>(Vs.dK ps c).isSome:=by rw[xS]
   rw[hA,T]
   clear hA T hk A
 all_goals (
  clear K H h8 Ey
  cases ha:s.any λc=>(Vs.dK ps c).isSome
  ·go_wp2
   go_ret
   rw[apn s (λc hc=>by simp_all)]
   exact⟨f.below _,rfl⟩
  ·obtain⟨N,hN⟩:∃N,(fe ps s).length=N:=⟨_,rfl⟩
   rw[hN]at hrl ⊢
   clear z
   obtain⟨i5,hi5,apx,apy,apz⟩:=info_parts apo
   go_wp2
   obtain⟨w1,hmk,hown,hgr⟩:=run_make_full (P:=a7) wr wr.heap.size 135 5 i5 (.int .u8 0) 1 oi hi5 apx apy .i64 .i64 N (by rw[apz];omega) (by unfold maxLen;omega) (dD _)
   rw[hmk]
   simp only[oj]
   rw[nh]
   obtain⟨cs0,hc0,hc1⟩:∃cs0,w1.heap[wr.heap.size]?=J (.cells cs0 5 (0,0))∧cs0.size=N:=by
    rcases hown.2 with⟨h,_⟩|⟨gg,cp,cur,h,_,h1,_,_,h2,_⟩
    ·cases h
    simp_all
   obtain⟨V,QQ⟩:∃x,x=wr:=⟨_,rfl⟩
   subst QQ
   have qS:cn V.heap.size V w1:=(lv _ _).grown hgr (dD _) (λq hq=>by cases hq)
   clear hown hgr hmk
   go_wp2
   go_loopw [13,14] (λj i wr=>∃k:U,k≤s.length∧i=.int .i64 k∧j=.int .i64 ((fe ps (s.take k)).length:U)∧cn V.heap.size V wr∧∃cs,wr.heap[V.heap.size]?=J (.cells cs 5 (0,0))∧cs.size=N∧∀(x:U)b,(fe ps (s.take k))[x]?=J b→cs[x]?=J (.int .u8 b.toNat)) (λ_ i _=>s.length-(intOf i).toNat)
   case atStart=>exact⟨0,fm _,rfl,rfl,qS,cs0,hc0,hc1,λx b h=>by simp[fe]at h⟩
   case round=>
    obtain⟨k,hk,rfl,rfl,C,cs,hcs,QS,Ez⟩:=hrel
    by_cases A:k<s.length
    ·obtain⟨c,hc⟩:∃c,s[k]?=J c:=⟨_,du A⟩
     obtain⟨v0,B,t⟩:=G c
     have apA:g<V.heap.size:=by rw[f.heap];exact KX
     have B:=(C.cell (p:=⟨g,c.toNat,O⟩) apA).trans ((f.cell _).trans B)
     have ht:s.take (k+1)=s.take k++[c]:=by rw[TG,hc];rfl
     have D:=apl ps (s.take k) c
     rw[←ht]at D
     have hle:(fe ps (s.take (k+1))).length≤N:=by
      have e:fe ps s=fe ps (s.take (k+1))++fe ps (s.drop (k+1)):=by
       conv=>lhs;rw[←l7 (k+1) s]
       simp only[fe,uW]
      rw[←hN,e,lr]
      omega
     have hix:(⟨s.toArray⟩:mc)[k]'(by rw[hs];exact A)=c:=by
      have:s[k]=c:=by simp_all
      simpa[aws]using this
     have vC:=c.toNat_lt
     obtain⟨R,hR⟩:∃R,fe ps (s.take k)=R:=⟨_,rfl⟩
     rw[hR]at D Ez ⊢
     have KZ:=bz uO D
     rw[lr]at KZ
     have fz:∀j,wr.frozen? ⟨V.heap.size,j,O⟩=I:=by intro j;simp[lw,hcs]
     cases hr:Vs.dK ps c with
     |none=>
      rw[hr]at t
      subst t
      have hrb:qx ps c=[c]:=by simp[qx,hr]
      rw[hrb]at D KZ
      have hRN:R.length<N:=by simp at KZ;omega
      obtain⟨u0,YD⟩:∃u,wr.cell? ⟨V.heap.size,R.length,O⟩=J u:=⟨_,by simp only[dm,hcs];exact Array.getElem?_eq_getElem (by omega)⟩
      obtain⟨g5,o5⟩:=Vs.heap_setCell (o:=R.length) (v:=.int .u8 c.toNat) hcs
      clear G F r ht hR hr
      go_wp2
      rw[TL wr 135 5 O 0 0 oi]
      simp only[oj]
      rw[nh]
      go_wp2
      go_roundw
      case rel=>
       refine⟨k+1,by omega,by simp,by rw[D];simp,C.setCell (p:=⟨V.heap.size,R.length,O⟩) (dD _) _,_,g5,by simp[QS],λx b E=>?_⟩
       rw[D]at E
       rcases Nat.lt_trichotomy x R.length with h|rfl|h
       ·rw[og h]at E
        rw[LY (by omega)]
        exact Ez x b E
       ·simp_all
       ·rw[List.getElem?_eq_none (by simp;omega)]at E
        cases E
      case measure=>simp[intOf];omega
     |some l=>
      rw[hr]at t
      obtain⟨bb,oo,cc,rfl,hbb,hbc⟩:=t
      obtain⟨p,hp,_,Y⟩:=KY hr
      have hl2:2≤l.length:=by rw[←Y];exact r p hp
      have hrb:qx ps c=l:=by simp[qx,hr]
      rw[hrb]at D KZ
      have hRN:R.length+l.length≤N:=by omega
      have axp:R.length≤N:=by omega
      have axq:(c.toNat:M)<256:=by omega
      have hNR:¬N=R.length:=by omega
      have apC:bb<V.heap.size:=by rw[f.heap];exact hZ bb hbb
      have apD:∀(i:U)x,l[i]?=J x→wr.cell? ⟨bb,oo+i,O⟩=J (.int .u8 x.toNat):=λi x E=>(C.cell (p:=⟨bb,oo+i,O⟩) apC).trans ((f.cell _).trans (hbc i x E))
      have hcp:=run_copy_row (P:=a7) wr.drew 135 135 3 5 V.heap.size R.length (N-R.length) (N-R.length) ⟨bb,oo,O⟩ l.length cc cs 5 (l.map λx=>.int .u8 x.toNat) oi (by kernel_rfl) (by exact hcs)
       (by simp[Nat.min_def];omega) (λj v hv=>by
         rw[gj,oh]at hv
         obtain⟨x,E,rfl⟩:=hv
         have e:(⟨bb,oo,O⟩:dt).add j=⟨bb,oo+j,O⟩:=by simp_all [Addr.add]
         simp_all) (by simp;omega) (by simp[Value.oneCell'])
      simp only[jf]at hcp
      clear G F r ht hR hr hp Y hbc
      go_wp2
      rw[TL wr 135 5 (J ⟨bb,oo,O⟩) l.length cc oi]
      simp only[oj]
      rw[nh]
      go_wp2
      go_region
      go_wp2
      go_roundw
      case rel=>
       refine⟨k+1,by omega,by simp,by rw[D];simp,⟨C.os,C.tape,C.output,by have:=C.size;simpa using this,λq hq=>?_⟩,_,setRow_heap wr.drew V.heap.size cs _ 5 _ hcs,?_,λx b E=>?_⟩
       ·rw[setRow_other _ _ _ _ (by omega)]
        exact C.block q hq
       ·simp;omega
       ·rw[D]at E
        have hxl:=(gi.1 E).1
        rw[lr]at hxl
        rw[Fj]
        rcases gW x R.length with h|h
        ·rw[og h]at E
         rw[og (by simp;omega),List.getElem?_take_of_lt h,oc]
         exact Ez x b E
        ·rw[Ax h]at E
         have e:(cs.toList.take R.length).length=R.length:=by simp;omega
         rw[Ax (by omega),e,og (by simp;omega),gj,E]
         rfl
      case measure=>simp[intOf];omega
    ·obtain rfl:k=s.length:=by omega
     rw[xS]at Ez ⊢
     have qU:=run_convert_bytes_back (P:=a7) wr 135 9 5 ⟨V.heap.size,0,O⟩ N (fe ps s) oi uT r7 (λj hj=>by
      have e:(⟨V.heap.size,0,O⟩:dt).add j=⟨V.heap.size,j,O⟩:=by simp_all [Addr.add]
      rw[e]
      simp only[dm,hcs]
      exact Ez j _ (du hj))
     rw[hN]at qU
     go_wp2
     go_ret
     refine⟨(f.below _).trans ?_,rfl⟩
     rw[←f.heap]
     exact C)
def disable(w:bD):(callFunc 308 #[]).run a7 w=.ok (.value (.tuple #[])) w:=run_call_mark0 Tryz.func308 (by kernel_rfl) (by kernel_rfl) (by kernel_rfl) .disable (by kernel_rfl) w
def enable(w:bD):(callFunc 310 #[]).run a7 w=.ok (.value (.tuple #[])) w:=run_call_mark0 Tryz.func310 (by kernel_rfl) (by kernel_rfl) (by kernel_rfl) .enable (by kernel_rfl) w
def acquire(a:dt)(w:bD):(callFunc 311 #[.pointer (J a)]).run a7 w=.ok (.value (.tuple #[])) w:=run_call_marked Tryz.func311 (by kernel_rfl) (by kernel_rfl) (by kernel_rfl) .acquire (by kernel_rfl) a w
def releaseMerge(a:dt)(w:bD):(callFunc 313 #[.pointer (J a)]).run a7 w=.ok (.value (.tuple #[])) w:=run_call_marked Tryz.func313 (by kernel_rfl) (by kernel_rfl) (by kernel_rfl) .releaseMerge (by kernel_rfl) a w
def apF(a:dt)(x:az)(u:FrameMode)(w:bD)(g:w.cell? a=J x)(h:w.frozen? a=I):CallsD a7 280 #[.pointer (J a),.bool W] u w λe d w'=>d=u∧(e=.returned (.tuple #[])∧w'=w.drew.setCell a (.int .u32 1)):=by
 have b:w.drew.cell? a=J x:=by go_simp
 have c:w.drew.frozen? a=I:=by go_simp
 have f:=run_call_store (P:=a7) Tryz.func298 (by kernel_rfl) (by kernel_rfl) (by kernel_rfl) (by kernel_rfl) (k:=.u32) (y:=1) b c;go_enter_d Tryz.func280,Tryz.ntmps280;go_wp2;go_region_calls;all_goals (go_end0;exact⟨rfl,rfl⟩)
set_option maxRecDepth 100000 in
def apG(a:dt)(u:FrameMode)(w:bD)(b:w.cell? a=J (.int .i32 1))(d:w.frozen? a=I):CallsD a7 279 #[.pointer (J a)] u w λe f w'=>f=u∧(e=.returned (.tuple #[])∧w'=w.setCell a (.int .i32 0)):=by have hd:=disable;have h:=enable;have i:=releaseMerge;have c:=run_call_add (P:=a7) Tryz.func314 (by kernel_rfl) (by kernel_rfl) (by kernel_rfl) .i32 (by kernel_rfl) (y:=-1) (s:=0) b d (by simp[go_sem];rfl);have g:=awt (P:=a7) (src:=375) (dst:=251) awu TD (by kernel_rfl) b;go_enter_d Tryz.func279,Tryz.ntmps279;go_wp2;all_goals go_end0;all_goals go_wp2;all_goals go_end0;all_goals exact⟨rfl,rfl⟩
set_option maxRecDepth 100000 in
def apH(a:dt)(w:bD)(c:w.cell? a=J (.int .i32 0))(f:w.frozen? a=I):dw a7 278 #[.pointer (J a)] w λe w'=>e=.returned (.tuple #[])∧w'=w.setCell a (.int .i32 1):=by
 have hd:=disable;have h:=enable;have i:=acquire;have d:=run_call_cas_hit (P:=a7) Tryz.func309 (by kernel_rfl) (by kernel_rfl) (by kernel_rfl) .i32 (by kernel_rfl) (y:=1) c f;have b:(w.setCell a (.int .i32 1)).cell? a=J (.int .i32 1):=World.cell?_setCell_same w a _ c;have g:=awt (P:=a7) (src:=375) (dst:=251) awu TD (by kernel_rfl) b;go_enter Tryz.func278,Tryz.ntmps278;go_wp2;first|go_end0|(simp only[Exit.inBlock,Exit.then];refine bodyPost_ret (results_none rfl _ _ _) rfl ?_)|refine bodyPost_ret (results_none rfl _ _ _) rfl ?_
 go_wp2;all_goals go_end0;all_goals exact⟨rfl,rfl⟩
structure Raw(ps:List (UInt8×List UInt8))(q o cap:Nat)(w:World):Prop where
 c0:∀(k:Nat)p,ps[k]?=some p→w.cell? ⟨q,o+2*k,none⟩=some (.string ⟨#[p.1]⟩)
 c1:∀(k:Nat)p,ps[k]?=some p→w.cell? ⟨q,o+(2*k+1),none⟩=some (.string ⟨p.2.toArray⟩)
 cap:2*ps.length≤cap
 lt:q<w.heap.size
structure Good(ps:List (UInt8×List UInt8)):Prop where
 m2:2≤ps.length
 m3:ps.length≤1000
 nd:(ps.map (·.1)).Nodup
 len:∀p∈ps,2≤p.2.length
def Built(b:U)(ps:L (ai×L ai))(a c d:az)(el:aW)(lo hi:U)(w w':bD):Prop:=w.grownBy w' (J b)∧∃g,w'.heap[b]?=J (.cells #[a,c,d,.iface 343 (.pointer (J ⟨g,0,O⟩)),.slice O 0 0] el (lo,hi))∧w.heap.size≤g∧g<w'.heap.size∧RB w.heap.size g ps w'
theorem RB.keep{B g:U}{ps:L (ai×L ai)}{w w':bD}(h:RB B g ps w)(hk:∀b,B≤b→b<w.heap.size→w'.heap[b]?=w.heap[b]?)(r:B≤g):RB B g ps w':=by
 let⟨cs,k,h1,h2,h3,l,i⟩:=h;have lt:∀{b:U}{x},w.heap[b]?=J x→b<w.heap.size:=λh=>(oa.1 h).1;refine⟨cs,k,by grind,h2,λc=>?_,l,i.1,?_⟩;let⟨v,m,j⟩:=h3 c;refine⟨v,m,?_⟩;split;grind;rename_i h;rw[h]at j;let⟨n,cs,fz,cap,a,d,o,e⟩:=j;exact⟨n,cs,fz,cap,a,d,by grind,e⟩;rcases i.2 with h|⟨p,q,f,a,d,o,e⟩
 exact .inl h;exact .inr ⟨p,q,f,a,d,by grind,e⟩
set_option maxHeartbeats 1000000 in
set_option maxRecDepth 100000 in
def apI(b q o cap:U)(ps:L (ai×L ai))(n p r x3:az)(el:aW)(lo hi:U)(z:∀o,o<5→¬(lo≤o∧o<hi))(w:bD)(l:Good ps)(m:Raw ps q o cap w) (s:w.heap[b]?=J (.cells #[n,p,r,x3,.slice (J ⟨q,o,O⟩) (2*ps.length) cap] el (lo,hi))):dw a7 209 #[.pointer (J ⟨b,0,O⟩)] w λe w'=>e=.returned (.tuple #[])∧Built b ps n p r el lo hi w w':=by
 have f:b<w.heap.size:=(oa.1 s).1;go_enter Tryz.func209,Tryz.ntmps209;go_wp2_with (go_at_call 255;refine(apd b q o cap ps n p r x3 el (lo,hi) w ps.length rfl l.m2 l.m3 l.nd m.cap s m.lt f m.c0 m.c1 l.len).mono ?_);rintro e a ⟨d,g,rfl,i,t,u⟩;have j:a.heap[b]?=_:=(d.block b f).trans s;have d3:a.cell? ⟨b,3,O⟩=J x3:=by simp[dm,j]
 have f3:a.frozen? ⟨b,3,O⟩=I:=by simp_all [lw]
 let⟨x,A⟩:=Vs.heap_setCell (o:=3) (v:=.iface 343 (.pointer (J ⟨g,0,O⟩))) j;let⟨B,C⟩:=Vs.heap_setCell (o:=4) (v:=.slice O 0 0) x;have d4:(a.setCell ⟨b,3,O⟩ (.iface 343 (.pointer (J ⟨g,0,O⟩)))).cell? ⟨b,4,O⟩=J (.slice (J ⟨q,o,O⟩) (2*ps.length) cap):=by simp[dm,x]
 have f4:(a.setCell ⟨b,3,O⟩ (.iface 343 (.pointer (J ⟨g,0,O⟩)))).frozen? ⟨b,4,O⟩=I:=by simp_all [lw]
 go_wp2;go_end0;have y:a.heap.size≤((a.setCell ⟨b,3,O⟩ (.iface 343 (.pointer (J ⟨g,0,O⟩)))).setCell ⟨b,4,O⟩ (.slice O 0 0)).heap.size:=by simp_all
 refine⟨rfl,⟨d.os,d.tape,d.output,uV d.size y,λc D hn=>?_⟩,g,by simpa using B,i,om t y,u.keep (λc E F=>?_) i⟩;have k:c≠b:=λh=>hn (by rw[h]);rw[C c k,A c k,d.block c D];grind
set_option maxHeartbeats 1000000 in
set_option maxRecDepth 100000 in
def apJ(b q o cap:U)(ps:L (ai×L ai))(s K:az)(el:aW)(lo hi:U)(t:∀o,o<5→¬(lo≤o∧o<hi))(w:bD)(N:Good ps)(n:Raw ps q o cap w) (u:w.heap[b]?=J (.cells #[.int .u32 0,.int .i32 0,s,K,.slice (J ⟨q,o,O⟩) (2*ps.length) cap] el (lo,hi)))(j:q≠b):dw a7 254 #[.pointer (J ⟨b,0,O⟩),.func (.func 209) #[.pointer (J ⟨b,0,O⟩)] #[]] w λe w'=>e=.returned (.tuple #[])∧Built b ps (.int .u32 1) (.int .i32 0) s el lo hi w w':=by
 have R:b<w.heap.size:=(oa.1 u).1;let⟨C,S⟩:=Vs.heap_setCell (o:=1) (v:=.int .i32 1) u;have d1:w.cell? ⟨b,1,O⟩=J (.int .i32 0):=by simp[dm,u]
 have z1:w.frozen? ⟨b,1,O⟩=I:=by simp_all [lw]
 have d0:(w.setCell ⟨b,1,O⟩ (.int .i32 1)).cell? ⟨b,0,O⟩=J (.int .u32 0):=by simp[dm,C]
 have hl:=run_call_load (P:=a7) Tryz.func277 (by kernel_rfl) (by kernel_rfl) (by kernel_rfl) .u32 (by kernel_rfl) d0;have D:∀(x:ao)(w:bD),(Op.unary .not (.bool x)).run a7 w=.ok (.bool (!x)) w:=λ_ _=>rfl;have y:Raw ps q o cap (w.setCell ⟨b,1,O⟩ (.int .i32 1)):=by refine⟨λk p h=>?_,λk p h=>?_,n.cap,by simpa using n.lt⟩;rw[awv _ _ _ _ (λh=>j (bz Addr.block h).symm)];exact n.c0 k p h;rw[awv _ _ _ _ (λh=>j (bz Addr.block h).symm)];exact n.c1 k p h
 go_enter_defers Tryz.func254,Tryz.ntmps254;go_wp2_with (first|(go_at_call 278;refine(apH ⟨b,1,O⟩ _ (by go_simp) (by go_simp)).mono ?_;rintro e w' ⟨rfl,rfl⟩)|(go_at_call 209;refine(apI b q o cap ps _ _ _ _ el lo hi t _ N y C).mono ?_;rintro e r ⟨rfl,d,g,l,i,z,m⟩)|(go_at_call 253;go_in));let⟨E,F⟩:=Vs.heap_setCell (o:=0) (v:=.int .u32 1) (show r.drew.heap[b]?=_ from l);let⟨T,G⟩:=Vs.heap_setCell (o:=1) (v:=.int .i32 0) E;refine leaves_cons (f:=280) (args:=#[.pointer (J ⟨b,0,O⟩),.bool W]) (by simp) (by simp[go_sem]) ?_;refine(apF ⟨b,0,O⟩ (.int .u32 0) .returning _ (by simp[dm,l]) (by simp_all [lw])).mono ?_;rintro e V A ⟨rfl,rfl,rfl⟩;refine leaves_cons (f:=279) (args:=#[.pointer (J ⟨b,1,O⟩)]) (by simp[settle]) (by simp[go_sem]) ?_;refine(apG ⟨b,1,O⟩ _ _ (by simp[dm,E]) (by simp_all [lw])).mono ?_;rintro e V A ⟨rfl,rfl,rfl⟩;suffices B:Built b ps (.int .u32 1) (.int .i32 0) s el lo hi w ((r.drew.setCell ⟨b,0,O⟩ (.int .u32 1)).setCell ⟨b,1,O⟩ (.int .i32 0)) by simp[Leaves,settle,results,Tryz.results254];exact B
 have H:(w.setCell ⟨b,1,O⟩ (.int .i32 1)).heap.size=w.heap.size:=AE ..;rw[H]at i m;have X:((r.drew.setCell ⟨b,0,O⟩ (.int .u32 1)).setCell ⟨b,1,O⟩ (.int .i32 0)).heap.size=r.heap.size:=by simp_all
 refine⟨⟨d.os,d.tape,d.output,by grind,λc Y hn=>?_⟩,g,by simpa using T,i,by rw[X];exact z,m.keep (λc Z hc2=>?_) i⟩;have a:c≠b:=λh=>hn (by rw[h]);rw[G c a,F c a];exact(d.block c (by rw[H];exact Y) hn).trans (S c a);have a:c≠b:=by omega
 rw[G c a,F c a];rfl
set_option maxRecDepth 100000 in
def apK(b q o cap:U)(ps:L (ai×L ai))(a f:az)(el:aW)(lo hi:U)(c:∀o,o<5→¬(lo≤o∧o<hi))(w:bD)(i:Good ps)(j:Raw ps q o cap w) (g:w.heap[b]?=J (.cells #[.int .u32 0,.int .i32 0,a,f,.slice (J ⟨q,o,O⟩) (2*ps.length) cap] el (lo,hi)))(d:q≠b):dw a7 208 #[.pointer (J ⟨b,0,O⟩),.func (.func 209) #[.pointer (J ⟨b,0,O⟩)] #[]] w λe w'=>e=.returned (.tuple #[])∧Built b ps (.int .u32 1) (.int .i32 0) a el lo hi w w':=by
 have d0:w.cell? ⟨b,0,O⟩=J (.int .u32 0):=by simp[dm,g]
 have l:=run_call_load (P:=a7) Tryz.func277 (by kernel_rfl) (by kernel_rfl) (by kernel_rfl) .u32 (by kernel_rfl) d0;have h:∀(x:ao)(w:bD),(Op.unary .not (.bool x)).run a7 w=.ok (.bool (!x)) w:=λ_ _=>rfl;go_enter Tryz.func208,Tryz.ntmps208;go_wp2_with (first|(go_at_call 254;refine(apJ b q o cap ps a f el lo hi c _ i j g d).mono ?_;rintro e w' ⟨rfl,k⟩)|(go_at_call 253;go_in));go_end0;exact⟨rfl,k⟩
def apL(a:dt)(d:M)(hd:¬d=0)(c:az)(w:bD)(f:w.cell? a=J (.int .u32 d)):dw a7 208 #[.pointer (J a),c] w λe w'=>e=.returned (.tuple #[])∧w'=w:=by
 have h:=run_call_load (P:=a7) Tryz.func277 (by kernel_rfl) (by kernel_rfl) (by kernel_rfl) .u32 (by kernel_rfl) f;have b:∀(x:ao)(w:bD),(Op.unary .not (.bool x)).run a7 w=.ok (.bool (!x)) w:=λ_ _=>rfl;have g:(d !=0)=W:=by simp[hd]
 go_enter Tryz.func208,Tryz.ntmps208;go_wp2;go_end0;exact⟨rfl,rfl⟩
def RB.built{B g:U}{ps:L (ai×L ai)}{w:bD}(h:RB B g ps w)(t:g<w.heap.size)(hp:ps.length≠0):Vs.pM w (λb=>B≤b∧b<w.heap.size) ps g:=by
 let⟨cs,u,h1,h2,h3,k,l⟩:=h;have lt:∀{b:U}{x},w.heap[b]?=J x→b<w.heap.size:=λh=>(oa.1 h).1;refine⟨λc=>?_,?_⟩;let⟨v,m,j⟩:=h3 c;refine⟨v,by simp[dm,h1,m],?_⟩;split;grind;rename_i h;rw[h]at j;let⟨n,o,fz,cap,a,d,e,p⟩:=j;exact⟨n,0,cap,a,⟨d,lt e⟩,λi x r=>by grind [dm]⟩;rcases l.2 with⟨_,s⟩|⟨q,cap,f,a,d,e,p,y,z,A⟩
 exact bX s hp;refine⟨q,0,cap,by simp[dm,h1,k,a],⟨d,lt e⟩,λi c r=>?_⟩;have hi:i<ps.length:=by grind
 have C:(f.toList.take (ps.length*1))[i]?=J (.string ⟨#[c]⟩):=by grind
 grind [dm]
set_option maxHeartbeats 1000000 in
set_option maxRecDepth 100000 in
def apM(b q o cap:U)(ps:L (ai×L ai))(s:L ai)(m x:az)(el:aW)(lo hi:U)(n:∀o,o<5→¬(lo≤o∧o<hi))(w:bD)(i:Good ps)(B:Raw ps q o cap w) (y:w.heap[b]?=J (.cells #[.int .u32 0,.int .i32 0,m,x,.slice (J ⟨q,o,O⟩) (2*ps.length) cap] el (lo,hi)))(p:q≠b) (r:s.length≤1073741824)(t:(fe ps s).length≤1099511627776):dw a7 150 #[.pointer (J ⟨b,0,O⟩),.string ⟨s.toArray⟩] w λe w'=>e=.returned (.string ⟨(fe ps s).toArray⟩)∧Built b ps (.int .u32 1) (.int .i32 0) m el lo hi w w':=by have C:∀(fn:Fn)(first cap:bv az)(w:bD),(Instr.makeFunc fn first cap).run a7 w=.ok (.func fn first cap) w:=λ_ _ _ _=>rfl;go_enter Tryz.func150,Tryz.ntmps150;go_wp2_with (first|(go_at_call 208;refine(apK b q o cap ps m x el lo hi n _ i B y p).mono ?_;rintro e z ⟨rfl,d,g,j,k,f,l⟩;have D:z.cell? ⟨b,3,O⟩=J (.iface 343 (.pointer (J ⟨g,0,O⟩))):=by simp[dm,j])|(go_at_call 356;refine(abg g ps s _ z i.nd (by have:=i.m2;omega) i.m3 i.len r t f (λ_ h=>h.2) (l.built f (by have:=i.m2;omega))).mono ?_;rintro e E ⟨a,rfl⟩));go_ret;refine⟨rfl,?_⟩;have u:b<w.heap.size:=(oa.1 y).1;refine⟨⟨a.os.trans d.os,a.tape.trans d.tape,a.output.trans d.output,uV d.size a.size,λc A hn=>(a.block c (om A d.size)).trans (d.block c A hn)⟩,g,(a.block b (om u d.size)).trans j,k,om f a.size,l.keep (λc _ v=>a.block c v) k⟩
set_option maxHeartbeats 1000000 in
set_option maxRecDepth 100000 in
def apN(b g:U)(ps:L (ai×L ai))(s:L ai)(Z:U→Prop)(m n o:az)(w:bD)(a:Good ps) (h:∃ws el fz,w.heap[b]?=J (.cells ws el fz)∧ws[0]?=J (.int .u32 1)∧ws[3]?=J (.iface 343 (.pointer (J ⟨g,0,O⟩)))) (c:s.length≤1073741824)(d:(fe ps s).length≤1099511627776)(hZ:∀b,Z b→b<w.heap.size)(i:Z g)(j:Vs.pM w Z ps g):dw a7 150 #[.pointer (J ⟨b,0,O⟩),.string ⟨s.toArray⟩] w λe w'=>cn w.heap.size w w'∧e=.returned (.string ⟨(fe ps s).toArray⟩):=by
 let⟨ws,el,fz,h1,h2,h3⟩:=h;have k:∀(fn:Fn)(first cap:bv az)(w:bD),(Instr.makeFunc fn first cap).run a7 w=.ok (.func fn first cap) w:=λ_ _ _ _=>rfl;have c0:w.cell? ⟨b,0,O⟩=J (.int .u32 1):=by simp[dm,h1,h2]
 have p:w.cell? ⟨b,3,O⟩=J (.iface 343 (.pointer (J ⟨g,0,O⟩))):=by simp[dm,h1,h3]
 go_enter Tryz.func150,Tryz.ntmps150;go_wp2_with (first|(go_at_call 208;refine(apL ⟨b,0,O⟩ 1 (by decide) _ w c0).mono ?_;rintro e l ⟨rfl,q⟩;subst l)|(go_at_call 356;refine(abg g ps s Z w a.nd (by have:=a.m2;omega) a.m3 a.len c d (hZ g i) hZ j).mono ?_;rintro e r ⟨f,rfl⟩));go_ret;exact⟨f,rfl⟩
set_option maxHeartbeats 1000000 in
set_option maxRecDepth 100000 in
def apO(a off n cap:U)(xs:L az)(w:bD)(hn:xs.length=n)(f:n%2=0)(g:n≠0)(i:n≤2000)(hx:∀k v,xs[k]?=J v→w.cell? ⟨a,off+k,O⟩=J v):
  dw a7 149 #[.slice (J ⟨a,off,O⟩) n cap] w λe w'=>cn w.heap.size w w'∧∃q b cap cs,e=.returned (.pointer (J ⟨b,0,O⟩))∧w.heap.size≤q∧q<b∧b<w'.heap.size∧n≤cap∧
   w'.heap[b]?=J (.cells #[.int .u32 0,.int .i32 0,.int .u32 0,.nilIface,.slice (J ⟨q,0,O⟩) n cap] 273 (0,0))∧w'.heap[q]?=J (.cells cs 9 (0,0))∧∀(k:U)v,xs[k]?=J v→cs[k]?=J v:=by
 have u:((n:M)%2==1)=I:=by simp;omega
 have d:=grownCap_ge w n 0 9
 have l:¬xs=[]:=by grind
 have m:¬281474976710656<xR n 0*aww.bytes:=by grind [aww,xR]
 have c:∀W:bD,(∀(k:U)v,xs[k]?=J v→W.cell? ⟨a,off+k,O⟩=J v)→Sem.run a7 (loadCellsFrom ⟨a,off,O⟩ 0 n #[]) W=.ok xs.toArray W:=λW h=>by have:=run_loadCells_list (P:=a7) (w:=W) ⟨a,off,O⟩ xs (λj v x=>by grind [Addr.add]);simp_all [loadCells]
 have p:=c w hx
 have r:=c w.drew (λk v h=>hx k v h)
 go_enter Tryz.func149,Tryz.ntmps149
 go_wp2
 go_ret
 have s:∀o o',((w.alloc o).alloc o').drew.heap[w.heap.size]?=J o:=λo o'=>by show(World.alloc _ _).heap[w.heap.size]?=_;rw[Fs _ _ _ (by simp)];exact LZ
 have t:∀o o',((w.alloc o).alloc o').drew.heap[w.heap.size+1]?=J o':=λo o'=>by
  show(World.alloc _ _).heap[_]?=_;have h:w.heap.size+1=(w.alloc o).heap.size:=by simp
  rw[h];exact LZ
 refine⟨(((lv _ w).alloc (dD _) _).alloc (by simp) _).drew,w.heap.size,w.heap.size+1,_,_,rfl,dD _,Nat.lt_succ_self _,?_,d,t _ _,s _ _,λk v hk=>?_⟩
 grind
 grind
section
open Go.ChangeMaps Go.MapKept
open Go.Maps (Keyed)
def abB:Keyed a7 3:=Maps.int_keyed uS
def uy(v:az):Q (iN Unit×L MemPlace):=match v with|.slice O 0 0=>J (.nil,[])|.slice (J ⟨g,0,O⟩) n c=>J (.slice [.lit (.int .i64 g),.lit (.int .i64 n),.lit (.int .i64 c)] [],[])|_=>O
def aqi{u v:az}{d a:iN Unit}{p b:L MemPlace}(h:uy u=J (d,p))(c:uy v=J (a,b))(hd:d=a):u=v:=by subst hd;unfold uy at h c;grind
def aqj{w:bD}{base e size n:U}{v:az}{xs:L az}(h:w.ownsRow base e size v n xs):∃d,uy v=J (d,[]):=by
 rcases h.2 with⟨rfl,_⟩|⟨g,cap,a,rfl,_⟩
 exact⟨_,rfl⟩;grind [Proofs.YtgbmhohlapmgbaaGreatDoor.vx.uy]
structure GM(w:World)(e size b base n:Nat)(V:Int→Value)(N:Int→Nat)(X:Int→List Value):Prop where
 map:∃D,w.ownsMap Tryz.prog 3 uy b n D∧Maps.IsMap D∧∀k,(Lit.int .i64 k).wf=true→uy (V k)=some (D.atKey (.int .i64 k) .nil,[])
 rows:∀k,w.ownsRow base e size (V k) (N k) (X k)
 apart:∀k k',k≠k'→(V k).ownBlock=none∨(V k).ownBlock≠(V k').ownBlock
 lt:b<base
def GM.made(w:bD)(e size base:U)(a:w.heap.size<base):GM (w.alloc (.map #[] 0)) e size w.heap.size base 0 (λ_=>.slice O 0 0) (λ_=>0) (λ_=>[]):=⟨⟨.map [],World.ownsMap_made w a7 3 uy,⟨[],rfl⟩,λk _=>rfl⟩,λ_=>World.ownsRow_nil _ _ _ _,λ_ _ _=>.inl rfl,a⟩
theorem GM.keep{w w':bD}{e size b base n:U}{V:M→az}{N:M→U}{X:M→L az}{row:Q U}(h:GM w e size b base n V N X)(a:w.grownBy w' row)(c:J b≠row)(d:∀k,(V k).ownBlock=O∨(V k).ownBlock≠row):GM w' e size b base n V N X:=by let⟨⟨D,h1,h2,h3⟩,f,g,i⟩:=h;exact⟨⟨D,h1.kept a c,h2,h3⟩,λk=>(f k).kept a (d k),g,i⟩
theorem GM.mono{w:bD}{e size b base n a:U}{V:M→az}{N:M→U}{X:M→L az}(h:GM w e size b base n V N X)(hn:n≤a):GM w e size b base a V N X:=by let⟨⟨D,h1,h2,h3⟩,c,d,f⟩:=h;exact⟨⟨D,h1.mono hn,h2,h3⟩,c,d,f⟩
def GM.look{w:bD}{t E e size b base n:U}{V:M→az}{N:M→U}{X:M→L az}(h:GM w e size b base n V N X)(c:a7.underlying t=J (.map 3 E))(d:(zeroValue E).run a7 w=.ok (.slice O 0 0) w){k:M}(hk:(pz .i64 k).wf=W):(uN t (.map (J b)) (.int .i64 k) I).run a7 w=.ok (V k) w:=by let⟨D,h1,h2,h3⟩:=h.map;let⟨v,ps,a,hv⟩:=h1.lookup abB c d (zd:=.nil) (zp:=[]) rfl (awx uS hk);rw[a,aqi hv (h3 k hk) rfl]
theorem GM.put{w r:bD}{t E e size b base n:U}{V:M→az}{N:M→U}{X:M→L az}(h:GM w e size b base n V N X)(C:a7.underlying t=J (.map 3 E))(hn:n<maxLen){k:M}(hk:(pz .i64 k).wf=W) (A:w.grownBy r (V k).ownBlock){i:az}{m:U}{xs:L az}(x:r.ownsRow base e size i m xs)(s:i.ownBlock=(V k).ownBlock∨∃g,i.ownBlock=J g∧w.heap.size≤g):∃o,(Instr.mapUpdate t (.map (J b)) (.int .i64 k) i).run a7 r=.ok () o∧r.grownBy o (J b)∧GM o e size b base (n+1) (λj=>if j=k then i else V j) (λj=>if j=k then m else N j) (λj=>if j=k then xs else X j):=by
 let⟨⟨D,h1,h2,h3⟩,v,F,G⟩:=h;have f:∀{u:az}{q:U}{ys:L az}{a:bD},a.ownsRow base e size u q ys→u.ownBlock≠J b:=λH l=>by have:=(H.lt b l).1;omega
 let⟨d,hd⟩:=aqj x;let⟨o,p,K,y⟩:=(h1.kept A (λl=>f (v k) l.symm)).update abB C hn (awx uS hk) hd;have B:∀j,j≠k→(V j).ownBlock=O∨(V j).ownBlock≠i.ownBlock:=by
  intro j P;rcases s with s|⟨g,s,R⟩
  grind;cases z:(V j).ownBlock with|none=>exact .inl rfl|some T=>refine .inr λl=>?_;rw[s]at l;cases l;have:=((v j).lt g z).2;omega
 refine⟨o,p,y,⟨_,K,?_,λj P=>?_⟩,λj=>?_,λj Y S=>?_,G⟩;obtain⟨es,rfl⟩:=h2;exact⟨_,rfl⟩;by_cases c:j=k;subst c;simp only[if_true];rw[Maps.atKey_put_same h2 (k:=.int .i64 j) trivial];exact hd;simp_all [Maps.atKey_put_other];by_cases c:j=k;subst c;simp only[if_true];exact x.kept y (.inr (f x));simp only[aK c];exact((v j).kept A (F j k c)).kept y (.inr (f (v j)));grind
end
end
end Go.Proofs.YtgbmhohlapmgbaaGreatDoor.vx
namespace Go.Proofs.YtgbmhohlapmgbaaGreatDoor.vx
open Go Go.RowKit Go.Proofs
set_option maxHeartbeats 1000000 in
set_option maxRecDepth 100000 in
def amQ(cs:bv az)(g:U→M)(b:M)(w:bD)(c:∀i:U,i<32→cs[i]?=J (.int .u8 (g i)))(f:0≤b)(h1:b<256):dw a7 293 #[.agg cs,.int .u8 b] w λe w'=>e=.returned (.bool (Ve.ez .u8 (g (b/8).toNat/2 ^ (b%8).toNat) 1==1))∧cn w.heap.size w w':=by
 go_enter Tryz.func293,Tryz.ntmps293;have hk:=c (b/8).toNat (by omega);have d:0≤b/8:=by omega
 have a:b/8<32:=by omega
 have h:0≤b%8:=by omega
 go_wp2;go_ret;exact⟨rfl,(lv _ w).alloc (dD _) _⟩
end Go.Proofs.YtgbmhohlapmgbaaGreatDoor.vx
namespace Go.Proofs.YtgbmhohlapmgbaaGreatDoor.vd
open Go Go.Vs Go.Ve Go.Fd Go.Proofs.Tryz
def T32:Ty:=P5
def KJ:bm:={args:=[.row (.pair T32 KE),.one (.i .u8)],res:=[.one .b]}
def amS:gn prog 293 (KJ.F λx=>wP x.1 x.2):=by
 intro args boxes r c w vals β ω Z h j q a;unfold bm.F at c;split at c;rename_i z t;let⟨s,b⟩:=z;let⟨h1,h2⟩:=bm.gO KJ (by kernel_rfl) t;subst h1 h2;split at c;rename_i y hy;cases c;simp only[wP]at hy;split at hy;rename_i k;cases hy;have m:(0:M)≤(show M from b)∧(show M from b)<256:=iB k;let⟨c1,v⟩:=m;let⟨ws,A,f⟩:=a.args 0;have B:=(a.args 1).2;have hv:vals=#[.agg ws,.int .u8 b]:=vx.jv (l:=[.agg ws,.int .u8 b]) h λi hi=>by
  match i,hi with|0,_=>exact A|1,_=>exact B
 subst hv;have D:∀i:U,i<32→ws[i]?=J (.int .u8 ((zt s.1).getD i 0)):=by
  intro i hi;have o:i<(zt s.1).length:=hi;have k:((zt s.1).map (λn=>C.d (.int .u8 n))++[C.d (.int .i64 s.2.1),C.d (.bool s.2.2)])[i]?=J (C.d (.int .u8 ((zt s.1).getD i 0))):=by rw[og (by simpa using o),gj,du o,iy,du o];rfl
  let⟨u,E,G⟩:=f.get k;rw[←oc,E];exact bz J G
 refine(vx.amQ ws (λi=>(zt s.1).getD i 0) b w D c1 v).mono ?_;rintro e w' ⟨rfl,g⟩;exact⟨_,_,_,_,rfl,Ac a j g.os g.tape g.output g.size (λb p _=>g.block b p) (K₀:=cm prog 0 w #[] β ω Z) (β₀:=β) (Z₀:=Z) (s₀:=cA [] []) (a₀:={tmps:=#[],defers:=[]}) (w₀:=w) ⟨rfl,rfl⟩ rfl rfl rfl⟩;cases hy;cases c;cases c
def amT:jP prog 293 (KJ.F λx=>wP x.1 x.2):=oO Tryz.func293 (by kernel_rfl) rfl amS
def ZV:cw:=KJ.eu (by kernel_rfl) λx=>wP x.1 x.2
def amU:cM prog (293,ZV):=amT
noncomputable abbrev amV:{p:cY×cw // cM prog p}:=⟨(293,ZV),amU⟩
end Go.Proofs.YtgbmhohlapmgbaaGreatDoor.vd
namespace Go.Proofs.YtgbmhohlapmgbaaGreatDoor.vd
noncomputable section
open Go Go.Vs Go.Ve Go.Fd Go.Proofs.Tryz
set_option maxRecDepth 100000
def ZW:Bd:=gd func268 (sg [.one (.n .data alX),oS,.one (.n .data .bool)] [.one (.n .data .bool)]) (u3 CG) (fx 12 [6,7] 16176929861582163911) [amV] (ll [⟨⟨[0,1,7,15,16],[],[.slot 7 (.n .own .bool),sI 16]⟩,[(.exit 0,⟨[7],[],[.slot 7 (.n .own .bool)]⟩)],O⟩,⟨⟨(bt 100227),[],[.slot 9 (.l .own .bool),sI 10]⟩,[(.exit 2,⟨(bt 99203),[],[.slot 9 (.l .own .bool)]⟩)],O⟩,⟨⟨[0,1,7,8,9,15,16,61,62],[],[.slot 9 (.l .own .bool),sI 62]⟩,[(.exit 4,⟨[0,1,9,15,16],[],[.slot 9 (.l .own .bool)]⟩)],O⟩])
def amW:Bd:=gd func224 (sg [.one (.n .data alX),oS] [oB]) (u2 II) (fx 7 [4] 28787) [ZW] (ll [⟨⟨[0,1,5,12,13],[],[.slot 5 (.l .own .bool),sI 13]⟩,[(.exit 0,⟨[0,1,5],[],[.slot 5 (.l .own .bool)]⟩)],O⟩])
def amY:Bd:=gd func269 (sg [.one (.n .data alX),oS] [oI]) (u2 Pp) (fx 8 [4] 585971) [amX,ZW] (ll [⟨⟨[5,12,13,14],[],[sI 5,sI 14]⟩,[(.exit 0,⟨[5],[],[sI 5]⟩)],O⟩])
def amZ:Bd:=gd func225 (sg [.one (.n .data alX),oS] [oB]) (u2 IH) (fx 5 [4] 19) [amY]
def am0:Bd:=gd func183 (sg [.one (.n .data xp),oS,oI] [oB]) (u3 IK) (fx 8 [6] 1099512578247) [amW,amZ] (ll [⟨⟨[0,1,2,17,18],[],[sI 18]⟩,[(.ret,⟨[6],[],[.slot 6 .b]⟩),(.exit 0,⟨[],[],[]⟩)],O⟩])
def am1:Bd:=gd func118 (sg [.one (.n .data xp),oS] [.one (.n .own (.int .i64))]) (u2 IM) ({fx 7 [4] 533107 with od:=I}) [am0] (ll [⟨⟨[0,1,5,6],[],[.slot 5 (.n .own (.int .i64)),sI 6]⟩,[(.exit 0,⟨[5],[],[.slot 5 (.n .own (.int .i64))]⟩)],O⟩])
def B74:Bd:=gd func74 (sg [.one (.n .data xp),.one (.n .data aT)] [.one (.n .data gQ)]) (u2 IX) (fx 19 [4] 74975926631830904307) [ZO,am1,uu,am2,uw,am3,am4] (ll [⟨⟨(bt 469762466),[],[.slot 5 (.n .own gQ),sI 7,sI 28]⟩,[(.exit 0,⟨[5],[],[.slot 5 (.n .own gQ)]⟩)],O⟩,⟨⟨(bt 470157602),[],[sI 17]⟩,[(.exit 2,⟨(bt 470157602),[],[sI 17]⟩)],O⟩,⟨⟨(bt 470157602),[],[sI 18]⟩,[(.exit 4,⟨(bt 470157602),[],[sI 18]⟩)],O⟩])
def ZY:Bd:=gd func36 (sg [.one (.n .data cW),.one (.n .data xp)] [.row eM,oI]) (u2 zC) (fy 4 [5,6,7,8,9,10,11,12,13,14,15,16,17] [4,5] 309485044411109517804335027 [.loc 4,.loc 7,.loc 9,.loc 11,.loc 17]) [Qi,Qj,Eo,B74] (ll [⟨⟨[0,1,4,22,23,24],[(.loc 4)],[sI 24]⟩,[(.ret,⟨[4,5],[(.loc 4)],[sI 5,.cell (.loc 4) 0 (.n .own cW),.cell (.loc 4) 1 (.n .own dT),.cell (.loc 4) 2 iI]⟩),(.exit 0,⟨[0,1,4],[(.loc 4)],[]⟩)],O⟩,⟨⟨[1,4,9,39,40,41],[(.loc 4),(.loc 9)],[sI 41,.cell (.loc 9) 0 (.l .own cW),.cell (.loc 9) 1 (.n .own dT),.cell (.loc 9) 2 iI]⟩,[(.exit 2,⟨[4,9],[(.loc 4),(.loc 9)],[.cell (.loc 9) 0 (.l .own cW),.cell (.loc 9) 1 (.n .own dT),.cell (.loc 9) 2 iI]⟩)],O⟩,⟨⟨(bt 989010709188114),[(.loc 4),(.loc 9),(.loc 11)],[sI 49,.cell (.loc 9) 0 (.l .own cW),.cell (.loc 9) 1 (.n .own dT),.cell (.loc 9) 2 iI]⟩,[(.exit 4,⟨[1,4,9,39,40,41],[(.loc 4),(.loc 9)],[.cell (.loc 9) 0 (.l .own cW),.cell (.loc 9) 1 (.n .own dT),.cell (.loc 9) 2 iI]⟩)],O⟩,⟨⟨(bt 16141890075205053970),[(.loc 4),(.loc 9),(.loc 11)],[sI 63,.cell (.loc 9) 0 (.l .own cW),.cell (.loc 9) 1 (.n .own dT),.cell (.loc 9) 2 iI]⟩,[(.exit 6,⟨(bt 989010709188114),[(.loc 4),(.loc 9),(.loc 11)],[.cell (.loc 9) 0 (.l .own cW),.cell (.loc 9) 1 (.n .own dT),.cell (.loc 9) 2 iI]⟩)],O⟩])
def Qr:bm:={args:=[.row cW],res:=[.one .s]}
def aag:∀l:L (ao×L ai×L ai),vx.ur (l.map (aP cG))=J l
 |[]=>rfl|(u,k,g)::l=>by
  have:=aag l;show(match vx.ur (l.map (aP cG))with|some l=>J ((u,k,g)::l)|none=>O)=_
  rw[this]
def anr:jP prog 44 (Qr.F rE):=by
 intro args boxes r h;unfold bm.F at h;split at h;rename_i z c;let⟨n,o⟩:=z;let⟨h1,h2⟩:=bm.gO Qr (by kernel_rfl) c;subst h1 h2;have a:=h;simp only[rE]at a;split at a;rename_i y hy;split at hy;rename_i b;cases hy;cases a;rw[bG]at b;refine vx.amO _ _ _ ?_;cases o with|none=>show vx.xt [.agg [.d (.int .i64 n),.d .nil]] []=_;simp only[vx.xt,vx.Ep,vx.ur,vx.xq];rfl|some l=>show vx.xt [.agg [.d (.int .i64 n),.d (.sl 3 (l.map (aP cG)))]] []=_;have:=aag l;simp only[eB]at b;simp only[vx.xt,vx.Ep,show Nat.beq 3 3=W from rfl,this,vx.xq,b.1,b.2];rfl
 cases hy;cases a;cases h
def KK:cw:=Qr.eu (by kernel_rfl) rE
def G44:cM prog (44,KK):=anr
abbrev Qs:{p:cY×cw // cM prog p}:=⟨(44,KK),G44⟩
def KN:bm:={args:=[.one .s,.one .s],res:=[.one (.i .i64)]}
def anv:(0:U)∈vq prog:=eA (i:=0) (by kernel_rfl)
def anw:gn prog 161 (KN.F λx=>Fd.strings_Index x.1 x.2):=by
 intro args boxes r c w vals β ω Z d f g a;unfold bm.F at c;split at c;rename_i z h;let⟨s,t⟩:=z;let⟨h1,h2⟩:=bm.gO KN (by kernel_rfl) h;subst h1 h2;split at c;rename_i y hy;cases c;simp only[Fd.strings_Index]at hy;split at hy;rename_i j;cases hy;have hv:vals=#[.string ⟨s.toArray⟩,.string ⟨t.toArray⟩]:=vx.jv (l:=[.string ⟨s.toArray⟩,.string ⟨t.toArray⟩]) d λi hi=>by
  match i,hi with|0,_=>exact(a.args 0).2|1,_=>exact(a.args 1).2
 subst hv;let⟨_,_,_,m,k⟩:=a.opens 0 anv;refine(Tryz.strings_Index ⟨s.toArray⟩ ⟨t.toArray⟩ m w (by simpa[Av]using iB j) k).mono ?_;rintro e w' ⟨rfl,rfl⟩;exact⟨_,_,_,_,rfl,Ac a f rfl rfl rfl (dD _) (λb _ _=>rfl) (K₀:=cm prog 0 w' #[] β ω Z) (β₀:=β) (Z₀:=Z) (s₀:=cA [] []) (a₀:={tmps:=#[],defers:=[]}) (w₀:=w') ⟨rfl,rfl⟩ rfl rfl rfl⟩;cases hy;cases c;cases c
def anx:jP prog 161 (KN.F λx=>Fd.strings_Index x.1 x.2):=oO Tryz.func161 (by kernel_rfl) rfl anw
def aai:cw:=KN.eu (by kernel_rfl) λx=>Fd.strings_Index x.1 x.2
def anz:cM prog (161,aai):=anx
abbrev aaj:{p:cY×cw // cM prog p}:=⟨(161,aai),anz⟩
def Qu:bm:={args:=[.one .s,.one (.i .u8)],res:=[.one (.i .i64)]}
def anA:jP prog 284 (Qu.F λx=>Di x.1 x.2):=by intro args boxes r h;unfold bm.F at h;split at h;rename_i z a;let⟨s,c⟩:=z;let⟨h1,h2⟩:=bm.gO Qu (by kernel_rfl) a;subst h1 h2;cases h;exact vx.amP _ _ _ rfl;cases h
def aak:cw:=Qu.eu (by kernel_rfl) (λx=>Di x.1 x.2)
def anB:cM prog (284,aak):=anA
abbrev anC:{p:cY×cw // cM prog p}:=⟨(284,aak),anB⟩
def aal:Bd:=gd func259 (sg [oS,.one (.i .u8)] [oI]) (u2 Dj) (fx 5 [4] 19) [anC]
def Ae:Bd:=gd func246 (sg [oS,.one (.i .u8)] [oI]) (u2 strings_IndexByte) (fx 5 [4] 19) [aal]
def anO:Bd:=gd func215 (sg [oS,oS] [oI]) (u2 zN) (fy 0 [0,1,4,5,6,7,8,9,10,11,12,13,16,24,31,36] [4] 702342826256273603086707106465568295829491) [aal,anG,anN]
def anP:Bd:=gd func256 (sg [oS,oS] [oS,oS,oB]) (u2 Jn) (fx 8 [4,5,6] 4339) [anO]
def KO:Bd:=gd func210 (sg [oS,oS] [oS,oS,oB]) (u2 rF) (fx 7 [4,5,6] 115) [anP]
def aan:Bd:=gd func251 (sg [oS] [oB]) Dl (fx 7 [2] 35184443392125) [Ae,KO,xu] (ll [⟨⟨[0,3],[],[sI 3]⟩,[(.ret,⟨[2],[],[.slot 2 .b]⟩),(.exit 0,⟨[0],[],[]⟩)],O⟩])
def aao:Bd:=gd func214 (sg [oS] [.row aT,oI,oB]) Dm (fy 0 [0,1,3,4,5,6,7,18,31] [2,3,4] 2147748093 [.loc 2,.loc 7]) [Ae,KL,xu,anE,aan]
def KP:Bd:=gd func152 (sg [oS] [oS]) tY (fx 6 [2] 13) [KO]
def anQ:Bd:=gd func160 (sg [oS] [oI,oS,oB]) Js (fx 7 [2,3,4] 8589937277 [.loc 6]) [KL,aaj,aao,KP,Qv]
def anR:Bd:=gd func242 (sg [.ptr (.inb 0) 0,.row aT,oI] [oI] [.cells [.n .own aT,.n .own (.int .u8),.n .own (.int .i64),.n .own aT,.i .i64]] [[J (.n .own aT),J (.n .own (.int .u8)),J (.n .own (.int .i64)),J (.n .own aT),J iI]]) (u3 qn) (fx 8 [6] 147573952593971381463 [.inb 0,.loc 4]) [KP,aar,aas]
def anU:Bd:=gd func203 (sg [.ptr (.inb 0) 0,oS,oI] [oI,oI] [.cells [.n .own aT,.n .own (.int .u8),.n .own (.int .i64),.n .own aT,.i .i64]] [[J (.n .own aT),J (.n .own (.int .u8)),J (.n .own (.int .i64)),J (.n .own aT),J iI]]) (u3 lP) (fy 16 [21,42,60] [6,7] 4723521660640834944967 [.inb 0,.loc 9]) [aao,KP,Qv,anR,anS,anT,aas,Ae,xu,aar]
def aat:Bd:=gd func144 ⟨[oS],[],[.ptr (.inb 0) 0,oI,oI],[[J (.n .own aT),J (.n .own (.int .u8)),J (.n .own (.int .i64)),J (.n .own aT),J iI]],[],W⟩ Jr (fx 9 [2,3,4] 17188274685 [.loc 10]) [anU] (ll [⟨⟨[0,5,6],[(.loc 10)],[sI 6,.cell (.loc 10) 0 (.n .own aT),.cell (.loc 10) 1 (.n .own (.int .u8)),.cell (.loc 10) 2 (.n .own (.int .i64)),.cell (.loc 10) 3 (.n .own aT),.cell (.loc 10) 4 iI]⟩,[(.ret,⟨[2,3,4],[],[.slot 2 (.u .ptr),sI 3,sI 4]⟩),(.exit 0,⟨[0,5],[(.loc 10)],[.cell (.loc 10) 0 (.n .own aT),.cell (.loc 10) 1 (.n .own (.int .u8)),.cell (.loc 10) 2 (.n .own (.int .i64)),.cell (.loc 10) 3 (.n .own aT),.cell (.loc 10) 4 iI]⟩)],O⟩])
def aau:Bd:=gd func107 (sg [oS] [.one (.n .data aT),oI,oI]) zO (fx 6 [2,3,4] 8253 [.esc 8 0]) [aat,anV]
def anY{P:Program}{w:bD}{name:String}{g:U}{l:L az}(c:P.globalNamed name=J g)(h:oD w g l)(d:0<l.length):w.var? P name=J l.toArray:=by
 have a:=h.get (du d);simp only[dm]at a;simp only[World.var?,c,Option.bind_some];cases b:w.heap[g]? with
 |none=>rw[b]at a;cases a
 |some o=>
  cases o with
  |cells cs t f=>simp only[kI];apply Array.ext_getElem?;intro i;have:=h i;simp only[dm,b]at this;simpa using this
  |_=>rw[b]at a;cases a
def KQ:bm:={args:=[.one (.i .i64)],res:=[.one .s]}
set_option maxRecDepth 100000 in
def anZ{w:bD}{K:Ctx}{β:Key→Q U}{ω:U→Q cj}{Z:U→Prop}{s:St}{a:Act}(b:K.P=prog)(h:Rel K β ω Z s a w):Lib.TabIs prog w "internal/strconv.uint64pow10" .u64 Lib.pow10Tab:=by have c:=ZI.1;obtain⟨_,_,_,q⟩:=h.laid _ _ (by rw[b];exact c);exact anY (by kernel_rfl) q (by decide)
def an0{n:M}{y:L ai}(h:Fd.strconv_Itoa n=J y): -9223372036854775808≤n∧n≤9223372036854775807∧y=Lib.itoa n:=by unfold Fd.strconv_Itoa at h;split at h;rename_i a;cases h;rw[bG,eh,eh]at a;exact⟨a.1,a.2,rfl⟩;cases h
def an1:gn prog 163 (KQ.F Fd.strconv_Itoa):=by
 intro args boxes r c w vals β ω Z d f m a;unfold bm.F at c;split at c;rename_i n hn;let⟨h1,h2⟩:=bm.gO KQ (by kernel_rfl) hn;subst h1 h2;split at c;rename_i y hy;cases c;obtain⟨g,h,rfl⟩:=an0 hy;skip;have hv:vals=#[.int .i64 n]:=vx.jv (l:=[.int .i64 n]) d λi hi=>by
  match i,hi with|0,_=>exact(a.args 0).2
 subst hv;refine(Tryz.strconv_Itoa n g h w (anZ rfl a)).mono ?_;rintro e w' ⟨rfl,k,os,rfl⟩;refine⟨_,_,_,_,rfl,Ac a f rfl rfl rfl ?_ (λb j _=>?_) (K₀:=cm prog 0 w #[] β ω Z) (β₀:=β) (Z₀:=Z) (s₀:=cA [] []) (a₀:={tmps:=#[],defers:=[]}) (w₀:=w) ⟨rfl,rfl⟩ rfl rfl rfl⟩;show w.heap.size≤(w.heap++os).size;simp;show(w.heap++os)[b]?=w.heap[b]?;exact Array.getElem?_append_left j;cases c;cases c
def an2:jP prog 163 (KQ.F Fd.strconv_Itoa):=oO Tryz.func163 (by kernel_rfl) rfl an1
def aav:cw:=KQ.eu (by kernel_rfl) Fd.strconv_Itoa
def an3:cM prog (163,aav):=an2
abbrev aaw:{p:cY×cw // cM prog p}:=⟨(163,aav),an3⟩
def an4:Bd:=gd func104 (sg [oS] [.one (.n .data cG),oI,oI]) Do (fx 15 [2,3,4] 1199040617149288837117 [.esc 19 0]) [Qt,anQ,aaj,aau,aaw,Qw,Qx] (ll [⟨⟨[0,3,5,6],[(.esc 19 0)],[sI 3,sI 6,.cell (.esc 19 0) 0 .s,.cell (.esc 19 0) 1 iI,.cell (.esc 19 0) 2 (.n .own cG)]⟩,[(.ret,⟨[2,3,4],[],[.slot 2 (.n .data cG),sI 3,sI 4]⟩),(.exit 0,⟨[5],[(.esc 19 0)],[.cell (.esc 19 0) 0 .s,.cell (.esc 19 0) 1 iI,.cell (.esc 19 0) 2 (.n .own cG)]⟩)],O⟩])
def KR:bm:={args:=[.one .s,.one .s],res:=[.one .s]}
def an7{n:U}(t:L ai)(h:t.length<n):(kh t.toArray).size<n:=by simpa[Av]using h
def an8:gn prog 217 (KR.F λx=>Fd.nX x.1 x.2):=by
 intro args boxes r c w vals β ω Z f g k a;unfold bm.F at c;split at c;rename_i z m;let⟨s,t⟩:=z;let⟨h1,h2⟩:=bm.gO KR (by kernel_rfl) m;subst h1 h2;split at c;rename_i y hy;cases c;simp only[Fd.nX]at hy;split at hy;rename_i h;cases hy;have hv:vals=#[.string ⟨s.toArray⟩,.string ⟨t.toArray⟩]:=vx.jv (l:=[.string ⟨s.toArray⟩,.string ⟨t.toArray⟩]) f λi hi=>by
  match i,hi with|0,_=>exact(a.args 0).2|1,_=>exact(a.args 1).2
 subst hv;rw[bG,eh]at h;refine(Tryz.nX ⟨s.toArray⟩ ⟨t.toArray⟩ w (an7 t h.1) (ascii_of_all h.2)).mono ?_;rintro e w' ⟨rfl,d⟩;exact⟨_,_,_,_,rfl,Ac a g d.os d.tape d.output d.size (λb j _=>d.block b j) (K₀:=cm prog 0 w #[] β ω Z) (β₀:=β) (Z₀:=Z) (s₀:=cA [] []) (a₀:={tmps:=#[],defers:=[]}) (w₀:=w) ⟨rfl,rfl⟩ rfl rfl rfl⟩;cases hy;cases c;cases c
def an9:jP prog 217 (KR.F λx=>Fd.nX x.1 x.2):=oO Tryz.func217 (by kernel_rfl) rfl an8
def aax:cw:=KR.eu (by kernel_rfl) λx=>Fd.nX x.1 x.2
def aoa:cM prog (217,aax):=an9
abbrev aob:{p:cY×cw // cM prog p}:=⟨(217,aax),aoa⟩
def aoc:Bd:=gd func165 (sg [oS,oI] [oI,oB]) (u2 Jy) (fx 10 [4,5] 627) [KO,aob]
def aoj:Bd:=gd func204 (sg [.ptr (.inb 0) 0,oS,oI] [oI,oI] [.cells [.n .own aT,.n .own (.int .u8),.n .own (.int .i64),.i .i64,.i .i64]] [[J (.n .own aT),J (.n .own (.int .u8)),J (.n .own (.int .i64)),J iI,J iI]]) (u3 xe) (fy 3 [6,7,8,9,10,11,12,13,29,34,63,91] [6,7] 21267688499854044179923068231660617671 [.inb 0]) [aof,aog,aoh,Ae,xu,aoi] (ll [⟨⟨[1,10],[(.inb 0)],[sI 10]⟩,[(.exit 1,⟨[10],[(.inb 0)],[sI 10]⟩)],O⟩])
def aaA:Bd:=gd func146 ⟨[oS],[],[.ptr (.inb 0) 0,oI,oI],[[J (.n .own aT),J (.n .own (.int .u8)),J (.n .own (.int .i64)),J iI,J iI]],[],W⟩ Ds (fx 9 [2,3,4] 8405501 [.loc 10]) [aoj] (ll [⟨⟨[0,5,6],[(.loc 10)],[sI 6,.cell (.loc 10) 0 (.n .own aT),.cell (.loc 10) 1 (.n .own (.int .u8)),.cell (.loc 10) 2 (.n .own (.int .i64)),.cell (.loc 10) 3 iI,.cell (.loc 10) 4 iI]⟩,[(.ret,⟨[2,3,4],[],[.slot 2 (.u .ptr),sI 3,sI 4]⟩),(.exit 0,⟨[5],[(.loc 10)],[.cell (.loc 10) 0 (.n .own aT),.cell (.loc 10) 1 (.n .own (.int .u8)),.cell (.loc 10) 2 (.n .own (.int .i64)),.cell (.loc 10) 3 iI,.cell (.loc 10) 4 iI]⟩)],O⟩])
def aaB:Bd:=gd func108 (sg [oS] [.one (.n .data aT),oI,oI]) xf (fx 6 [2,3,4] 8253 [.esc 8 0]) [aaA,aok]
def aol:Bd:=gd func105 (sg [oS] [.one (.n .data cG),oI,oI]) Dt (fx 16 [2,3,4] 1237940630157651390237040637 [.esc 20 0]) [Qt,aoc,aod,aoe,aaB,Qw,Qx] (ll [⟨⟨[0,3,5,6],[(.esc 20 0)],[sI 3,.slot 6 (.l .own (.bB I .str .bool)),.cell (.esc 20 0) 0 .s,.cell (.esc 20 0) 1 iI,.cell (.esc 20 0) 2 (.n .own cG)]⟩,[(.ret,⟨[2,3,4],[],[.slot 2 (.n .data cG),sI 3,sI 4]⟩),(.exit 0,⟨[5],[(.esc 20 0)],[.cell (.esc 20 0) 0 .s,.cell (.esc 20 0) 1 iI,.cell (.esc 20 0) 2 (.n .own cG)]⟩)],O⟩])
def aom:Bd:=gd func218 (sg [oS,oI] [oI,oB,oB]) (u2 JC) (fx 7 [4,5,6] 1153064441261195379) [Ae] (ll [⟨⟨[0,4,5],[],[sI 4]⟩,[(.exit 0,⟨[0,4,5],[],[sI 4]⟩)],O⟩,⟨⟨[0,4,5],[],[sI 4]⟩,[(.exit 2,⟨[0,4,5],[],[sI 4]⟩)],O⟩])
def aoq:Bd:=gd func205 (sg [.ptr (.inb 0) 0,oS,oI] [oI,oI] [.cells [.n .own aT,.n .own (.int .u8),.n .own (.int .i64)]] [[J (.n .own aT),J (.n .own (.int .u8)),J (.n .own (.int .i64))]]) (u3 zR) (fy 12 [22,36,41] [6,7] 590331841423471546311 [.inb 0]) [KL,aoo,Ae,xu,aop]
def aaE:Bd:=gd func147 ⟨[oS],[],[.ptr (.inb 0) 0,oI,oI],[[J (.n .own aT),J (.n .own (.int .u8)),J (.n .own (.int .i64))]],[],W⟩ Du (fx 9 [2,3,4] 8405501 [.loc 10]) [aoq] (ll [⟨⟨[0,5,6],[(.loc 10)],[sI 6,.cell (.loc 10) 0 (.n .own aT),.cell (.loc 10) 1 (.n .own (.int .u8)),.cell (.loc 10) 2 (.n .own (.int .i64))]⟩,[(.ret,⟨[2,3,4],[],[.slot 2 (.u .ptr),sI 3,sI 4]⟩),(.exit 0,⟨[5],[(.loc 10)],[.cell (.loc 10) 0 (.n .own aT),.cell (.loc 10) 1 (.n .own (.int .u8)),.cell (.loc 10) 2 (.n .own (.int .i64))]⟩)],O⟩])
def aaF:Bd:=gd func109 (sg [oS] [.one (.n .data aT),oI,oI]) xg (fx 6 [2,3,4] 8253 [.esc 8 0]) [aaE,aor]
def aos:Bd:=gd func220 (sg [.ptr (.inb 0) 0,oI,oI,oI,oB] [oI,oI] [.cells [.s,.p (.inb 1) 0,.i .i64,.i .i64,.i .i64,.i .i64],.cells [.s,.i .i64,.n .own cG]] [[O,O,O,O,O,O],[J .s,J iI,J (.n .own cG)]]) (λx=>PF x.1 x.2.1 x.2.2.1 x.2.2.2.1 x.2.2.2.2.1 x.2.2.2.2.2) (fx 15 [10,11] 36029351069772831 [.inb 0,.inb 1]) [aaF,aaw,Qw]
def aot:Bd:=gd func168 (sg [.ptr (.inb 0) 0,oI] [oI,oI] [.cells [.s,.p (.inb 1) 0,.i .i64,.i .i64,.i .i64,.i .i64],.cells [.s,.i .i64,.n .own cG]] [[O,O,O,J iI,J iI,J iI],[J .s,J iI,J (.n .own cG)]]) (u3 PH) (fy 13 [71,87,100] [4,5] 1267805345389471783603918610419 [.inb 0,.inb 1]) [aom,aon,aos] (ll [⟨⟨[0,1,6,7],[(.inb 0),(.inb 1)],[sI 6,sI 7,.cell (.inb 0) 3 iI,.cell (.inb 0) 4 iI,.cell (.inb 0) 5 iI,.cell (.inb 1) 0 .s,.cell (.inb 1) 1 iI,.cell (.inb 1) 2 (.n .own cG)]⟩,[(.ret,⟨[4,5],[(.inb 0),(.inb 1)],[sI 4,sI 5,.cell (.inb 0) 3 iI,.cell (.inb 0) 4 iI,.cell (.inb 0) 5 iI,.cell (.inb 1) 0 .s,.cell (.inb 1) 1 iI,.cell (.inb 1) 2 (.n .own cG)]⟩),(.exit 0,⟨[0,1,6,7],[(.inb 0),(.inb 1)],[sI 6,sI 7,.cell (.inb 0) 3 iI,.cell (.inb 0) 4 iI,.cell (.inb 0) 5 iI,.cell (.inb 1) 0 .s,.cell (.inb 1) 1 iI,.cell (.inb 1) 2 (.n .own cG)]⟩)],O⟩])
def aou:Bd:=gd func106 (sg [oS] [.one (.n .data cG),oI,oI]) Dv (fx 6 [2,3,4] 4311744829 [.loc 13,.esc 11 0]) [Qt,aot,Qx] (ll [⟨⟨[0,3,5],[(.loc 13),(.esc 11 0)],[sI 3,.cell (.esc 11 0) 0 .s,.cell (.esc 11 0) 1 iI,.cell (.esc 11 0) 2 (.n .own cG),.cell (.loc 13) 2 iI,.cell (.loc 13) 3 iI,.cell (.loc 13) 4 iI,.cell (.loc 13) 5 iI]⟩,[(.ret,⟨[2,3,4],[],[.slot 2 (.n .data cG),sI 3,sI 4]⟩),(.exit 0,⟨[5],[(.loc 13),(.esc 11 0)],[.cell (.esc 11 0) 0 .s,.cell (.esc 11 0) 1 iI,.cell (.esc 11 0) 2 (.n .own cG),.cell (.loc 13) 2 iI,.cell (.loc 13) 3 iI,.cell (.loc 13) 4 iI,.cell (.loc 13) 5 iI]⟩)],O⟩])
def B58:Bd:=gd func58 (sg [oI,oS] [.one (.n .data cG),oI,oI]) (u2 JG) (fy 7 [8,15] [4,5,6] 33267) [an4,aol,aou]
def B24:Bd:=gd func24 (sg [oI,oS] [.row cW,oI,oI]) (u2 JH) (fx 8 [4,5,6] 1049843 [.loc 4]) [Qq,B58]
def Qy:Bd:=gd func25 (sg [.row cW] [oI]) xh (fx 6 [2] 268436015 [.loc 1,.loc 3]) [Qq,Qs,B24,B59]
abbrev Qz:cw:=Qy.1.2
def G25:cM prog (25,Qz):=Qy.2
def QA:Bd:=gd func60 (sg [oI,oS] [.one (.n .data aT),oI]) (u2 Dw) (fy 8 [15,23] [4,5] 8421875) [aau,aaB,aaF]
abbrev QB:cw:=QA.1.2
def G60:cM prog (60,QB):=QA.2
def QC:Bd:=gd func26 (sg [.row cW,oI] [.one (.n .data aT),oI]) (u2 xi) (fx 6 [4,5] 134218295 [.loc 2]) [Qq,QA]
abbrev QD:cw:=QC.1.2
def G26:cM prog (26,QD):=QC.2
def aoJ:Bd:=gd func133 (sg [.row cW] [.one (.l .data KF)]) JJ (fx 6 [2] 3887 [.loc 1]) [B82,QC] (ll [⟨⟨[1,3,8,9,10],[(.loc 1)],[.slot 3 (.l .own KF),sI 10]⟩,[(.exit 0,⟨[3],[],[.slot 3 (.l .own KF)]⟩)],O⟩])
def aoT:Bd:=gd func206 (sg [.one (.n .data aT),oI] [oB]) (u2 JR) (fy 6 [12,35,45,61] [4] 2305878227945527347 [.loc 5]) [xu,aan]
def aoU:Bd:=gd func252 (sg [oS] [oS]) JP (fx 6 [2] 13) [KO]
def aoV:Bd:=gd func207 (sg [.one (.n .data aT),.row aT] [oB]) (u2 JQ) (fx 7 [4] 274882103259 [.loc 3,.loc 6]) [Ev,aoU] (ll [⟨⟨[3,7,8,9],[(.loc 3)],[sI 9]⟩,[(.ret,⟨[4],[],[.slot 4 .b]⟩),(.exit 0,⟨[],[],[]⟩)],O⟩])
def KS:Bd:=gd func148 (sg [.one (.n .data aT)] [oI]) xj (fx 5 [2] 8598450205 [.loc 4]) [Es,aoT,Ev,aoV] (ll [⟨⟨[0,13,14,15],[],[sI 15]⟩,[(.ret,⟨[2],[],[sI 2]⟩),(.exit 0,⟨[],[],[]⟩)],O⟩])
def KU:bm:={args:=[.one (.n .data aT)],res:=[.one (.n .data .str)]}
def aaZ(l:L (M×L ai×M)):∀k,k≤l.length→vx.SK (λi=>((l[i]?).getD default).1) (λi=>((l[i]?).getD default).2.1) k=hV (l.take k)|0,_=>rfl|k+1,h=>by have a:=aaZ l k (by omega);grind [TG,Proofs.YtgbmhohlapmgbaaGreatDoor.vx.SK,hV]
def ao2:gn prog 92 (KU.F ui):=by
 intro args boxes r u w vals β ω Z A B Y j;unfold bm.F at u;split at u;rename_i f t;let⟨h1,h2⟩:=bm.gO KU (by kernel_rfl) t;subst h1 h2;split at u;rename_i y hy;cases u;simp only[ui]at hy;split at hy;rename_i S;cases hy;have S:(TH (α:=List (M×List ai×M)) f []).length<4294967296:=iB S;have C:∃(p:Q dt)(q off len cap:U),vals=#[.slice p len cap]∧len=(TH (α:=List (M×List ai×M)) f []).length∧(p=J ⟨q,off,O⟩∨len=0)∧(p=J ⟨q,off,O⟩→0<len→Z q)∧∀k x,(TH (α:=List (M×List ai×M)) f [])[k]?=J x→w.cell? ⟨q,off+k*3,O⟩=J (.int .i64 x.1)∧w.cell? ⟨q,off+k*3+1,O⟩=J (.string ⟨x.2.1.toArray⟩)∧w.cell? ⟨q,off+k*3+2,O⟩=J (.int .i64 x.2.2):=by
  have T:=(j.args 0).2;cases f with
  |none=>
   refine⟨O,0,0,0,0,vx.jv (l:=[.slice O 0 0]) A λi hi=>?_,rfl,.inr rfl,(λ_ h=>bX h (Nat.lt_irrefl 0)),(λk x z=>by cases z)⟩;match i,hi with|0,_=>exact T
  |some l=>
   let⟨D,cap,V,H,g3,g4⟩:=(a6.fR (e:=3) rfl).1 T;simp only[jf]at V g3;refine⟨J D,D.block,D.off,l.length,cap,vx.jv (l:=[.slice (J D) l.length cap]) A λi hi=>?_,rfl,?_,λ_ X=>?_,λk x z=>?_⟩;match i,hi with|0,_=>exact V
   rcases H with H|⟨H,_⟩
   exact .inr (by omega);left;let⟨b,o,sp⟩:=D;cases H;rfl;grind;have K:l[k]?=J x:=z;let⟨q1,q2⟩:=g4.get (i:=k) (x:=[.int .i64 x.1,.str x.2.1,.int .i64 x.2.2]) (by rw[gj,K];rfl);let⟨⟨v0,r0,s0⟩,⟨v1,r1,s1⟩,⟨v2,r2,s2⟩,_⟩:=q2;exact⟨by rw[r0];exact bz J s0,by rw[r1];exact bz J s1,by rw[r2];exact bz J s2⟩
 obtain⟨p,q,off,len,cap,rfl,X,hp,hb,m⟩:=C;generalize hL:TH (α:=List (M×List ai×M)) f []=L at *;have n:∀k,k<len→L[k]?=J ((L[k]?).getD default):=λk hk=>by grind
 refine(vx.ao1 q off len cap (λi=>((L[i]?).getD default).1) (λi=>((L[i]?).getD default).2.1) (λi=>((L[i]?).getD default).2.2) p w (by omega) hp (λh h'=>j.cD q (hb h h')) (λk hk=>(m k _ (n k hk)).1) (λk hk=>(m k _ (n k hk)).2.1) (λk hk=>(m k _ (n k hk)).2.2)).mono ?_;rintro e w' ⟨d,v,rfl,hv⟩;have hS:vx.SK (λi=>((L[i]?).getD default).1) (λi=>((L[i]?).getD default).2.1) len=hV L:=by rw[aaZ L len (by omega),X,xS]
 rw[hS]at hv;have E:∀b,b<w.heap.size→ω b=O→w'.heap[b]?=w.heap[b]? :=λb N _=>d.block b N;rcases hv with⟨hn,rfl⟩|⟨hn,g,c,rfl,H8,P,R,hg4⟩
 rw[hn];exact⟨_,_,_,_,rfl,Ab (Z':=Z) (bks:=[]) j B d.os d.tape d.output d.size E (λ_ h=>h) (λ_ h=>.inl h) (λb t=>om (j.cD b t) d.size) rfl ⟨rfl,.inl ⟨.nil,rfl,rfl⟩⟩ rfl List.nodup_nil (λi b cs h=>by simp at h) (λi h=>bX h (Nat.not_lt_zero i))⟩;have G:J5 (hV L)=J ((hV L).mergeSort λx y=>decide (x≤y)):=by
   cases hh:hV L with|nil=>exact bX hh hn|cons a l=>rfl
 rw[G];refine⟨_,_,_,_,rfl,Ab (Z':=λb=>Z b∨b=g) (bks:=[]) j B d.os d.tape d.output d.size E (λ_ h=>.inl h) (λb h=>h.imp id λh=>by omega) (λb t=>?_) rfl ⟨rfl,.inl ⟨.sl 1 (((hV L).mergeSort λx y=>decide (x≤y)).map (aP .str)),rfl,?_⟩⟩ rfl List.nodup_nil (λi b cs h=>by simp at h) (λi h=>bX h (Nat.not_lt_zero i))⟩;rcases t with t|rfl
 exact om (j.cD b t) d.size;exact R;refine(a6.fR (e:=1) rfl).2 ⟨⟨g,0,O⟩,c,by simp,.inr ⟨rfl,.inr rfl⟩,by simpa using P,cH.c8 λi x z=>?_⟩;rw[gj,oh]at z;obtain⟨s,hs,rfl⟩:=z;refine⟨rfl,⟨_,?_,rfl⟩,trivial⟩;grind;cases hy;cases u;cases u
def ao3:jP prog 92 (KU.F ui):=oO Tryz.func92 (by kernel_rfl) rfl ao2
def QM:cw:=KU.eu (by kernel_rfl) ui
def G92:cM prog (92,QM):=ao3
def F47:gq:={cfg:={N:=90,T:=T,R:=R,eu:=λ_ f=>nO f [(88,QJ),(89,QK),(90,QL),(92,QM),(91,QN)],var:=[0,1,2,3,4,5,6,7,8,9,10,11,12,13,14,15,16,17],res:=[4],eqs:=EQ,dat:=[2,3,4,5,6,7,8,9,10,11,12,13,14,15,16,17],mh:=W},keys:=[0,1,4,5,6,7,8,9,10,11,13,15,17,47,50,51,52,53,64,65,66,67,78,80,84],fQ:=[.loc 13,.loc 15]}
def Ew:bm:={args:=[.one (.n .data aT),.one (.n .data aT)],boxes:=[],res:=[.one .b],hM:=[],bR:=[]}
def L47:U→Q fD:=λn=>match n with|0=>J {head:={live:=[0,1,11,50,51,52],fC:=[],vs:=[.slot 11 (.l .own El),.slot 52 (.i .i64)]},fE:=[(.exit 0,{live:=[0,1,11],fC:=[],vs:=[.slot 11 (.l .own El)]})]}|1=>J {head:={live:=[0,1,11,64,65,66],fC:=[],vs:=[.slot 11 (.l .own El),.slot 66 (.i .i64)]},fE:=[(.exit 2,{live:=[0,1,11],fC:=[],vs:=[.slot 11 (.l .own El)]})]}|2=>J {head:={live:=[0,1,78],fC:=[],vs:=[]},fE:=[(.ret,{live:=[4],fC:=[],vs:=[.slot 4 .b]}),(.exit 4,{live:=[0,1],fC:=[],vs:=[]})],Yl:=J 78}|_=>O
set_option maxRecDepth 100000 in
def ao6:∀x,rm F47 L47 f47 Ew x=(λx=>qp x.1 x.2) x:=by intro x;kernel_rfl
def aa3:gn prog 47 (Ew.F (λx=>qp x.1 x.2)):=tJ (F:=F47) (tbl:=L47) func47 (by kernel_rfl) mix (wG (l:=[(88,QJ),(89,QK),(90,QL),(92,QM),(91,QN)]) (qw rfl rfl) rfl (gH.2 ⟨G88,gH.2 ⟨G89,gH.2 ⟨G90,gH.2 ⟨G92,gH.2 ⟨G91,by simp⟩⟩⟩⟩⟩)) (by kernel_rfl) (by kernel_rfl) (by decide) (λ_=>by kernel_rfl) ao6
def C47:cw:=Ew.eu (by kernel_rfl) (λx=>qp x.1 x.2)
def G47:cM prog (47,C47):=wH func47 (by kernel_rfl) (by kernel_rfl) aa3
abbrev B47:{p:cY×cw // cM prog p}:=⟨(47,C47),G47⟩
def B94:Bd:=gd func94 (sg [oS] [oN,oI]) DE (fx 7 [2,3] 16477 [.esc 9 0]) [aat,ao9]
def B95:Bd:=gd func95 (sg [oS] [oN,oI]) DF (fx 7 [2,3] 16477 [.esc 9 0]) [aaA,apa]
def B96:Bd:=gd func96 (sg [oS] [oN,oI]) DG (fx 7 [2,3] 16477 [.esc 9 0]) [aaE,apb]
def abb:Bd:=gd func136 (sg [oI,oS] [oN,oI]) (u2 DH) (fy 6 [7,13] [4,5] 8435) [B94,B95,B96]
abbrev QP:cw:=abb.1.2
def apc:cM prog (136,QP):=abb.2
def K0:bm:={args:=[.one (.n .data .str)],res:=[.ptr (.inb 0) 0],hM:=[[J (.i .u32),J (.i .i32),J (.i .u32),J (.r 343),J (.n .data .str)]]}
def apP:gn prog 149 (K0.F ug):=by
 intro args boxes r g w vals β ω Z B C S a;unfold bm.F at g;split at g;rename_i f n;let⟨h1,h2⟩:=bm.gO K0 (by kernel_rfl) n;subst h1 h2;split at g;rename_i y hy;cases g;simp only[ug]at hy;split at hy;rename_i z;cases hy;simp only[bG,eh]at z;let⟨⟨p,D⟩,t⟩:=z;have T:=(a.args 0).2;cases f with
 |none=>grind|some l=>
  let⟨j,cap,P,m,V,X⟩:=(a6.fR (e:=1) rfl).1 T;simp only[jf]at P V;simp only[eB]at p D t;have E:j=⟨j.block,j.off,O⟩∧Z j.block:=by
   rcases m with m|⟨m,Y⟩
   omega;exact⟨by let⟨b,o,sp⟩:=j;cases m;rfl,Y⟩
  let⟨u,off,sp⟩:=j;let⟨m,gz⟩:=E;cases m;have hv:vals=#[.slice (J ⟨u,off,O⟩) l.length cap]:=vx.jv (l:=[.slice (J ⟨u,off,O⟩) l.length cap]) B λi hi=>by
   match i,hi with|0,_=>exact P
  subst hv;have hx:∀(k:U)v,(l.map λs=>LR ⟨s.toArray⟩)[k]?=J v→w.cell? ⟨u,off+k,O⟩=J v:=by intro k v hk;rw[gj,oh]at hk;obtain⟨s,R,rfl⟩:=hk;let⟨q1,q2⟩:=X.get (i:=k) (x:=[.str s]) (by rw[gj,R];rfl);let⟨⟨v0,A,s0⟩,_⟩:=q2;have A:w.cell? ⟨u,off+k*1,O⟩=J v0:=A;rw[Nat.mul_one]at A;rw[A];exact bz J s0
  refine(vx.apO u off l.length cap (l.map λs=>LR ⟨s.toArray⟩) w (by simp) p (by omega) t hx).mono ?_;rintro e w' ⟨d,q,b,cp,cs,rfl,hq,hqb,hb,G,H,hwq,hcs⟩;have K:∀b,b<w.heap.size→ω b=O→w'.heap[b]?=w.heap[b]? :=λb N _=>d.block b N;refine⟨_,_,_,_,rfl,Ab (Z':=λc=>Z c∨c=q) (bks:=[b]) a C d.os d.tape d.output d.size K (λ_ h=>.inl h) (λb h=>h.imp id λh=>by omega) (λc n=>?_) rfl ⟨rfl,.inr ⟨0,b,rfl,rfl,rfl⟩⟩ rfl (by simp) (λi c cs h z=>?_) (λi h=>bX h (Nat.not_lt_zero i))⟩;rcases n with n|rfl
  exact om (a.cD c n) d.size;omega;cases i with|succ i=>simp at h|zero=>cases h;cases z;refine⟨?_,λh=>bX h (by omega),_,_,_,_,H,by simp,[.int .u32 0,.int .i32 0,.int .u32 0,.rep 343 [],.sl 1 (l.map (aP .str))],rfl,rfl,rfl,rfl,rfl,?_,trivial⟩;rintro (h|h);have:=a.cD b h;omega;omega;refine(a6.fR (e:=1) rfl).2 ⟨⟨q,0,O⟩,cp,by simp,.inr ⟨rfl,.inr rfl⟩,by simpa using G,cH.c8 λk x hk=>?_⟩;rw[gj,oh]at hk;obtain⟨s,R,rfl⟩:=hk;refine⟨rfl,⟨_,?_,rfl⟩,trivial⟩;grind [dm]
 cases hy;cases g;cases g
def apQ:jP prog 149 (K0.F ug):=oO Tryz.func149 (by kernel_rfl) rfl apP
def abj:cw:=K0.eu (by kernel_rfl) ug
def apR:cM prog (149,abj):=apQ
abbrev QW:{p:cY×cw // cM prog p}:=⟨(149,abj),apR⟩
def Af:bm:={args:=[.ptr (.inb 0) 0,.one .s],boxes:=[.cells [.i .u32,.i .i32,.i .u32,.r 343,.n .data .str]],res:=[.one .s],hM:=[[J (.i .u32),J (.i .i32),O,J (.r 343),J (.n .data .str)]]}
def abk{ps:L (ai×L ai)}{s:L ai}(h:zS ps s=W):vx.Good ps∧s.length≤1073741824∧(vx.fe ps s).length≤1099511627776:=by simp only[zS,bG,eh,fO]at h;let⟨⟨⟨⟨⟨h1,h2⟩,h3⟩,a⟩,b⟩,c⟩:=h;exact⟨⟨h1,h2,h3,a⟩,b,c⟩
def abl:∀(l:L (L ai))ps,uh l=J ps→l.length=2*ps.length∧∀(k:U)p,ps[k]?=J p→l[2*k]?=J [p.1]∧l[2*k+1]?=J p.2
 |[],_,h=>by cases h;simp
 |[_],_,h=>by simp[uh]at h|[]::_::_,_,h=>by simp[uh]at h|(_::_::_)::_::_,_,h=>by simp[uh]at h|[c]::n::r,ps,h=>by simp only[uh,oh]at h;obtain⟨q,a,rfl⟩:=h;let⟨h1,h2⟩:=abl r q a;grind
def apS:gn prog 150 (Af.F λx=>rH x.1 x.2):=by
 intro args boxes r hF w vals β ω Z hsz hok hpl a;unfold bm.F at hF;split at hF;rename_i f hz;let⟨s,x0,x1,x2,v,ol⟩:=f;let⟨h1,h2⟩:=bm.gO Af (by kernel_rfl) hz;subst h1 h2;let⟨b,ws,el,lo,hi,P,E,R,hfz,m⟩:=a.boxes (.inb 0);split at hF;rename_i y hy;cases hF;have m:aG (λu c=>aH (cm prog 0 w vals β ω Z) β Z (cA (gV aA (Af.dG (s,x0,x1,x2,v,ol))) (gV aJ (Af.ef (s,x0,x1,x2,v,ol)))) {tmps:=#[],defers:=[]} w c u) ws.toList [.d (.int .u32 x0),.d (.int .i32 x1),.d (.int .u32 x2),.d (.rep 343 v),cE (.n .data .str ol)]:=m;have hlen:ws.size=5:=by have:=m.length;simpa using this
 let⟨v0,e0,G⟩:=m.get (j:=0) (b:=.d (.int .u32 x0)) rfl;let⟨v1,e1,r1⟩:=m.get (j:=1) (b:=.d (.int .i32 x1)) rfl;let⟨v2,e2,r2⟩:=m.get (j:=2) (b:=.d (.int .u32 x2)) rfl;let⟨v3,e3,r3⟩:=m.get (j:=3) (b:=.d (.rep 343 v)) rfl;let⟨v4,e4,r4⟩:=m.get (j:=4) (b:=cE (.n .data .str ol)) rfl;have G:v0=.int .u32 x0:=G;have r1:v1=.int .i32 x1:=r1;have r2:v2=.int .u32 x2:=r2;have r3:kN w Z 343 v v3:=r3;subst G r1 r2;have yv:ws=#[.int .u32 x0,.int .i32 x1,.int .u32 x2,v3,v4]:=by grind
 subst yv;have H:∀o,o<5→¬(lo≤o∧o<hi):=hfz;have S:¬Z b:=(a.c9 b _ E).1;have yx:b<w.heap.size:=(a.c9 b _ E).2.1;have hv:vals=#[.pointer (J ⟨b,0,O⟩),.string ⟨s.toArray⟩]:=vx.jv (l:=[.pointer (J ⟨b,0,O⟩),.string ⟨s.toArray⟩]) hsz λi hi=>by
  match i,hi with
  |0,_=>let⟨b',q1,q2⟩:=(a.args 0).2;rw[P]at q1;cases q1;exact q2
  |1,_=>exact(a.args 1).2
 subst hv;have T:∃d,cE (.n .data .str ol)=C.d d∧a6 w Z d v4:=by
  cases ol with|none=>exact⟨.nil,rfl,r4⟩|some l=>exact⟨.sl 1 (l.map (aP .str)),rfl,r4⟩
 let⟨d4,hd4,T⟩:=T;simp only[rH]at hy;split at hy;rename_i V;subst V;split at hy;rename_i hg;cases hy;let⟨K,X,Y⟩:=abk hg;have K1:∃g,v3=.iface 343 (.pointer (J ⟨g,0,O⟩))∧Z g∧pM w Z v g:=by
  cases v with|nil=>exact bX K.m2 (by simp)|cons p l=>exact r3
 obtain⟨g,rfl,hZg,hBu⟩:=K1;refine(vx.apN b g v s Z undef undef undef w K ⟨_,_,_,R,rfl,rfl⟩ X Y a.cD hZg hBu).mono ?_;rintro e w' ⟨z,rfl⟩;have hfr:∀b,b<w.heap.size→ω b=O→w'.heap[b]?=w.heap[b]? :=λb hb' _=>z.block b hb';have hZk:∀c,Z c→w'.heap[c]?=w.heap[c]? ∧Z c:=λc D=>⟨z.block c (a.cD c D),D⟩;refine⟨_,_,_,_,rfl,Ab (Z':=Z) (bks:=[b]) a hok z.os z.tape z.output z.size hfr (λ_ h=>h) (λ_ h=>.inl h) (λc hz=>om (a.cD c hz) z.size) rfl ⟨rfl,.inl ⟨_,rfl,rfl⟩⟩ rfl (by simp) (λi c cs h D=>?_) (λi h=>?_)⟩;cases i with|succ i=>simp at h|zero=>cases h;cases D;exact⟨S,λ_=>by rw[E];simp,_,_,_,_,(z.block b yx).trans R,hfz,[.int .u32 1,.int .i32 x1,.int .u32 x2,.rep 343 v,d4],by show _=[_,_,_,_,C.d d4];rw[←hd4];rfl,rfl,rfl,rfl,kN.mono hZk r3,a6.mono hZk _ _ T,trivial⟩
 match i,h with|0,_=>exact⟨b,rfl,P⟩
 cases hy;split at hy;rename_i V;let⟨h0,h1⟩:=V;subst h0 h1;split at hy;rename_i ps hps;split at hy;rename_i hg;cases hy;let⟨K,X,Y⟩:=abk hg;let⟨N,B⟩:=abl _ _ hps;have apV:∃q o cap,v4=.slice (J ⟨q,o,O⟩) (2*ps.length) cap∧Z q∧vx.Raw ps q o cap w:=by
  cases ol with
  |none=>exact bX K.m2 (by grind)|some l=>
   simp only[eB]at N B;have h0:a6 w Z (.sl 1 (l.map (aP .str))) v4:=r4;let⟨ad,cap,g1,g2,g3,g4⟩:=(a6.fR (e:=1) rfl).1 h0;simp only[jf]at g1 g3;have hm2:=K.m2;have M3:ad=⟨ad.block,ad.off,O⟩∧Z ad.block:=by
    rcases g2 with g2|⟨g2,g5⟩
    omega;exact⟨by let⟨b,o,sp⟩:=ad;cases g2;rfl,g5⟩
   let⟨bl,off,sp⟩:=ad;let⟨g2,gz⟩:=M3;cases g2;have hx:∀(k:U)(t:L ai),l[k]?=J t→w.cell? ⟨bl,off+k,O⟩=J (.string ⟨t.toArray⟩):=(by intro k t hk;let⟨q1,q2⟩:=g4.get (i:=k) (x:=[.str t]) (by rw[gj,hk];rfl);let⟨⟨v0,G,s0⟩,_⟩:=q2;have G:w.cell? ⟨bl,off+k*1,O⟩=J v0:=G;rw[Nat.mul_one]at G;rw[G];exact bz J s0);exact⟨bl,off,cap,by rw[g1,N],gz,λk p hp=>hx _ _ (B k p hp).1,λk p hp=>hx _ _ (B k p hp).2,by omega,a.cD bl gz⟩
 obtain⟨q,o,cap,rfl,hZq,hR⟩:=apV;have hqb:q≠b:=λh=>S (h▸hZq);refine(vx.apM b q o cap ps s _ _ el lo hi H w K hR R hqb X Y).mono ?_;rintro e w' ⟨rfl,A,g,H8,hg2,hg3,QR⟩;have hfr:∀c,c<w.heap.size→ω c=O→w'.heap[c]?=w.heap[c]? :=λc D hn=>A.block c D (λh=>by grind);have hBu:=QR.built hg3 (by have:=K.m2;omega);refine⟨_,_,_,_,rfl,Ab (Z':=λc=>Z c∨(w.heap.size≤c∧c<w'.heap.size)) (bks:=[b]) a hok A.os A.tape A.output A.size hfr (λ_ h=>.inl h) (λ_ h=>h.imp id λh=>h.1) (λc hz=>hz.elim (λh=>om (a.cD c h) A.size) λh=>h.2) rfl ⟨rfl,.inl ⟨_,rfl,rfl⟩⟩ rfl (by simp) (λi c cs h D=>?_) (λi h=>?_)⟩;cases i with
 |succ i=>simp at h|zero=>
  cases h;cases D;refine⟨λh=>h.elim S λh=>by omega,λ_=>by rw[E];simp,_,_,_,_,H8,H,[.int .u32 1,.int .i32 0,.int .u32 x2,.rep 343 ps,.nil],rfl,rfl,rfl,rfl,?_,rfl,trivial⟩;have:kN w' (λc=>Z c∨(w.heap.size≤c∧c<w'.heap.size)) 343 ps (.iface 343 (.pointer (J ⟨g,0,O⟩))):=by
   cases ps with|nil=>exact bX K.m2 (by simp)|cons p l=>exact⟨g,rfl,.inr ⟨hg2,hg3⟩,pM.mono (w:=w') (λc D=>⟨rfl,.inr D⟩) ⟨hg2,hg3⟩ hBu⟩
  exact this
 match i,h with|0,_=>exact⟨b,rfl,P⟩
 cases hy;cases hy;cases hy;cases hF;cases hF
def apY:jP prog 150 (Af.F λx=>rH x.1 x.2):=oO Tryz.func150 (by kernel_rfl) rfl apS
def abn:cw:=Af.eu (by kernel_rfl) λx=>rH x.1 x.2
def apZ:cM prog (150,abn):=apY
abbrev QX:{p:cY×cw // cM prog p}:=⟨(150,abn),apZ⟩
def B97:Bd:=gd func97 (sg [.one (.n .data aT)] [oS,oI]) DM (fy 9 [24,32,46,54,62] [2,3] 4629814770467279229 [.loc 8,.esc 15 0]) [KS,QW,QX,KP,Qv] (ll [⟨⟨[5,6,16,17,18],[(.esc 15 0)],[.slot 6 .s,sI 18,.cell (.esc 15 0) 0 (.i .u32),.cell (.esc 15 0) 1 (.i .i32),.cell (.esc 15 0) 3 (.r 343),.cell (.esc 15 0) 4 (.n .data .str)]⟩,[(.ret,⟨[2,3],[],[.slot 2 .s,sI 3]⟩),(.exit 0,⟨[6],[],[.slot 6 .s]⟩)],O⟩])
def B98:Bd:=gd func98 (sg [.one (.n .data aT)] [oS,oI]) DO (fy 9 [24,32] [2,3] 4321120637 [.loc 8,.esc 15 0]) [KS,QW,QX] (ll [⟨⟨[5,6,16,17,18],[(.esc 15 0)],[.slot 6 .s,sI 18,.cell (.esc 15 0) 0 (.i .u32),.cell (.esc 15 0) 1 (.i .i32),.cell (.esc 15 0) 3 (.r 343),.cell (.esc 15 0) 4 (.n .data .str)]⟩,[(.ret,⟨[2,3],[],[.slot 2 .s,sI 3]⟩),(.exit 0,⟨[6],[],[.slot 6 .s]⟩)],O⟩])
def B99:Bd:=gd func99 (sg [.one (.n .data aT)] [oS,oI]) DP (fy 9 [24,32] [2,3] 4321120637 [.loc 8,.esc 15 0]) [KS,QW,QX] (ll [⟨⟨[5,6,16,17,18],[(.esc 15 0)],[.slot 6 .s,sI 18,.cell (.esc 15 0) 0 (.i .u32),.cell (.esc 15 0) 1 (.i .i32),.cell (.esc 15 0) 3 (.r 343),.cell (.esc 15 0) 4 (.n .data .str)]⟩,[(.ret,⟨[2,3],[],[.slot 2 .s,sI 3]⟩),(.exit 0,⟨[6],[],[.slot 6 .s]⟩)],O⟩])
def abr:Bd:=gd func137 (sg [oI,.one (.n .data aT)] [oS,oI]) (u2 JT) (fy 6 [7,13] [4,5] 8435) [B97,B98,B99]
abbrev QY:cw:=abr.1.2
def ap0:cM prog (137,QY):=abr.2
def F83:gq:={cfg:={N:=153,T:=T,R:=R,eu:=λ_ f=>nO f [(25,Qz),(26,QD),(29,Et),(135,QO),(136,QP),(137,QY),(60,QB),(138,QZ),(31,Q0),(30,Q5),(139,Q6),(44,KK)],var:=[0,1,2,3,9,11,12,13,14,15,16,17,18,20,21,22],res:=[8,9],eqs:=EQ,dat:=[9,11,12,13,14,15,16,17,18,20,21,22],mh:=W,pE:=W},keys:=[0,1,2,3,4,8,9,10,11,12,13,14,15,16,17,18,19,20,21,22,23,28,38,52,68,71,72,73,74,89,123,133,150],fQ:=[.loc 4,.loc 8,.loc 10,.loc 19,.loc 23]}
def EA:bm:={args:=[.row cW,.one (.i .i64),.one (.n .data gQ),.one (.n .data lS)],boxes:=[],res:=[.row cW,.one (.i .i64)],hM:=[],bR:=[]}
def L83:U→Q fD:=λn=>match n with|0=>J {head:={live:=[1,2,3,4,8,10,12,14,15,16,17,71,72,73],fC:=[(.loc 4),(.loc 8),(.loc 10)],vs:=[.slot 16 .s,.slot 17 (.i .i64),.slot 73 (.i .i64)]},fE:=[(.ret,{live:=[8,9],fC:=[(.loc 8)],vs:=[.slot 9 (.i .i64),.cell (.loc 8) 0 (.i .i64),.cell (.loc 8) 1 (.n .own cG)]}),(.exit 0,{live:=[1,2,3,4,8,10,12,14,16,17],fC:=[(.loc 4),(.loc 8),(.loc 10)],vs:=[.slot 16 .s,.slot 17 (.i .i64)]})]}|_=>O
set_option maxRecDepth 100000 in
def aqc:∀x,rm F83 L83 f83 EA x=(λx=>mS x.1 x.2.1 x.2.2.1 x.2.2.2) x:=by intro x;kernel_rfl
def abz:gn prog 83 (EA.F (λx=>mS x.1 x.2.1 x.2.2.1 x.2.2.2)):=tJ (F:=F83) (tbl:=L83) func83 (by kernel_rfl) mix (wG (l:=[(25,Qz),(26,QD),(29,Et),(135,QO),(136,QP),(137,QY),(60,QB),(138,QZ),(31,Q0),(30,Q5),(139,Q6),(44,KK)]) (qw rfl rfl) rfl (gH.2 ⟨G25,gH.2 ⟨G26,gH.2 ⟨G29,gH.2 ⟨ao8,gH.2 ⟨apc,gH.2 ⟨ap0,gH.2 ⟨G60,gH.2 ⟨ap4,gH.2 ⟨G31,gH.2 ⟨G30,gH.2 ⟨aqb,gH.2 ⟨G44,by simp⟩⟩⟩⟩⟩⟩⟩⟩⟩⟩⟩⟩)) (by kernel_rfl) (by kernel_rfl) (by decide) (λ_=>by kernel_rfl) aqc
def C83:cw:=EA.eu (by kernel_rfl) (λx=>mS x.1 x.2.1 x.2.2.1 x.2.2.2)
def G83:cM prog (83,C83):=wH func83 (by kernel_rfl) (by kernel_rfl) abz
abbrev B83:{p:cY×cw // cM prog p}:=⟨(83,C83),G83⟩
def aqf:Bd:=gd func196 (sg [.ptr (.inb 0) 0,.row dT,.one (.n .data aT)] [oI] [.cells [.n .data cW,.n .data dT,.i .i64,.l .own mU]] [[O,O,O,O]]) (u3 J9) (fx 10 [6] 272634583 [.inb 0,.loc 4,.loc 8]) [aoS,KS,B47,B83]
def aqg:Bd:=gd func134 (sg [.ptr (.inb 0) 0,oI,.one (.l .own P8)] [oI] [.cells [.n .data cW,.n .data dT,.i .i64,.l .own mU]] [[O,O,O,O]]) (u3 Ec) (fx 12 [6] 39614688081225217563361807303 [.inb 0,.loc 7,.loc 10]) [Es,aoL,B48,aqf]
def B81:Bd:=gd func81 ⟨[.row eM],[],[.ptr (.inb 0) 0,oI],[[J (.n .data cW),J (.n .data dT),J iI,J (.l .own mU)]],[],W⟩ Kd ({fx 16 [2,3] 19879576200936570669336952815 [.loc 1,.loc 5,.loc 9,.loc 14,.loc 51]with nd:=[12],un:=[49]}) [Qy,aoD,aoJ,aqg] (ll [⟨⟨[1,27,28,29],[(.loc 1)],[sI 29]⟩,[(.ret,⟨[2,3],[],[.slot 2 (.u .ptr),sI 3]⟩),(.exit 0,⟨[1],[(.loc 1)],[]⟩)],O⟩,⟨⟨[7,53,54,55],[(.loc 51)],[sI 55,.cell (.loc 51) 0 (.n .data cW),.cell (.loc 51) 1 (.n .data dT),.cell (.loc 51) 2 iI,.cell (.loc 51) 3 (.l .own mU)]⟩,[(.exit 2,⟨[7],[(.loc 51)],[.cell (.loc 51) 0 (.n .data cW),.cell (.loc 51) 1 (.n .data dT),.cell (.loc 51) 2 iI,.cell (.loc 51) 3 (.l .own mU)]⟩)],O⟩,⟨⟨[7,8,53,54,55,62],[(.loc 51)],[.cell (.loc 51) 0 (.n .data cW),.cell (.loc 51) 1 (.n .data dT),.cell (.loc 51) 2 iI,.cell (.loc 51) 3 (.l .own mU)]⟩,[(.exit 4,⟨[7,53,54,55],[(.loc 51)],[.cell (.loc 51) 0 (.n .data cW),.cell (.loc 51) 1 (.n .data dT),.cell (.loc 51) 2 iI,.cell (.loc 51) 3 (.l .own mU)]⟩)],J 62⟩,⟨⟨[7,12,82,83,84],[(.loc 51)],[.slot 12 (.l .own P8),sI 84]⟩,[(.ret,⟨[2,3],[],[.slot 2 (.u .ptr),sI 3]⟩),(.exit 6,⟨[7],[(.loc 51)],[]⟩)],O⟩])
def K2:Bd:=gd func41 ⟨[.row eM,oI],[],[.ptr (.inb 0) 0,oI],[[J (.n .data cW),J (.n .data dT),J iI,J (.l .own mU)]],[],W⟩ (u2 qq) (fx 8 [4,5] 134234359 [.loc 2,.esc 10 0]) [B81]
abbrev rL:=ao×List ai×List ai
abbrev tP:Ty:=.pair .bool (.pair .str .str)
abbrev tI:Ty:=.pair (.int .i64) (.pair .str (.int .i64))
abbrev tR:Ty:=.pair (.int .i64) (.int .i64)
def dN(t:Ty)(o:Option (List t.T)):D:=match o with|none=>.nil|some l=>.sl t.e (l.map (aP t))
def ta(t:Ty)(o:Option (List t.T)):cE (.n .data t o)=.d (dN t o):=by cases o<;>rfl
def EB(w w':World)(Z1 a:Nat→Prop):Prop:=cn w.heap.size w w'∧(∀b,Z1 b→a b)∧(∀b,a b→Z1 b∨w.heap.size≤b)∧∀b,a b→b<w'.heap.size
section
variable{w0 w:World}{vals:Array Value}{β:Key→Option Nat}{ω:Nat→Option cj}{Z Z1:Nat→Prop}{args:List SV}{boxes:List (List C)}
def aqm(h:Rel (cm prog 0 w0 vals β ω Z) β ω Z (cA args boxes) {tmps:=#[],defers:=[]} w0)(p:cn w0.heap.size w0 w)(hZ:∀b,Z b→Z1 b)(k:∀b,Z1 b→b<w.heap.size) {fmt:M}{ps:Option (List rL)}{hv:Value}{us:Option (List M)}(l:a6 w Z1 (dN tP ps) hv)(q:lQ (fmt,ps)=J us):dw prog 82 #[.agg #[.int .i64 fmt,hv]] w λe w'=>∃v j,e=.returned v∧EB w w' Z1 j∧a6 w' j (dN (.int .i64) us) v:=by
 have f:(Er.dG (fmt,ps)).map aA=[.agg [.d (.int .i64 fmt),.d (dN tP ps)]]:=by cases ps<;>rfl
 refine(K3 (S:=Er) (x:=(fmt,ps)) aaI (by kernel_rfl) rfl rfl q h p hZ k rfl (by rw[f];rfl) (λi c g e xs=>?_) (λi=>?_)).mono ?_;rw[f]at g;match i,g with
 |0,g=>simp[SV.cells]at g;rcases g with rfl|rfl<;>simp
 |i+1,g=>simp[SV.cells]at g
 rw[f];match i with|0=>exact⟨_,rfl,rfl,l,trivial⟩|i+1=>trivial
 rintro e w' ⟨h1,v,j,K,m,s,a,rfl,h2,h3,r,t⟩;have o:aH K m j s a w' (cE (.n .data (.int .i64) us)) v:=t.2;rw[ta]at o;exact⟨v,j,rfl,⟨h1,h2,h3,r⟩,o⟩
def aqn(m:Rel (cm prog 0 w0 vals β ω Z) β ω Z (cA args boxes) {tmps:=#[],defers:=[]} w0)(N:cn w0.heap.size w0 w)(hZ:∀b,Z b→Z1 b)(p:∀b,Z1 b→b<w.heap.size) {fmt part:M}{ps:Option (List rL)}{hv E F:Value}{rs:Option (List (M×M))}{ts:Option (List (Option (List (M×List ai×M))))}{fmt':M}{h:Option (List rL)}{e':M} (q:a6 w Z1 (dN tP ps) hv)(n:a6 w Z1 (dN tR rs) E)(o:a6 w Z1 (dN (.sl tI) ts) F)(P:mS (fmt,ps) part rs ts=J ((fmt',h),e')):dw prog 83 #[.agg #[.int .i64 fmt,hv],.int .i64 part,E,F] w λe w'=>∃mW j,e=.returned (.tuple #[.agg #[.int .i64 fmt',mW],.int .i64 e'])∧EB w w' Z1 j∧a6 w' j (dN tP h) mW:=by
 have f:(EA.dG ((fmt,ps),part,rs,ts)).map aA=[.agg [.d (.int .i64 fmt),.d (dN tP ps)],.one (.d (.int .i64 part)),.one (.d (dN tR rs)),.one (.d (dN (.sl tI) ts))]:=by cases ps<;>cases rs<;>cases ts<;>rfl
 refine(K3 (S:=EA) (x:=((fmt,ps),part,rs,ts)) abz (by kernel_rfl) rfl rfl P m N hZ p rfl (by rw[f];rfl) (λi c g e xs=>?_) (λi=>?_)).mono ?_;rw[f]at g;match i,g with
 |0,g=>simp[SV.cells]at g;rcases g with rfl|rfl<;>simp
 |1,g=>simp[SV.cells]at g;subst g;simp|2,g=>simp[SV.cells]at g;subst g;simp|3,g=>simp[SV.cells]at g;subst g;simp|i+4,g=>simp[SV.cells]at g
 rw[f];match i with|0=>exact⟨_,rfl,rfl,q,trivial⟩|1=>exact⟨rfl,rfl⟩|2=>exact⟨vA n,n⟩|3=>exact⟨vA o,o⟩|i+4=>trivial
 rintro e w' ⟨h1,v,j,K,k,s,a,rfl,h2,h3,R,r⟩;have r:bj (aH K k j s a w') v (.aX [(W,[.d (.int .i64 fmt'),.d (dN tP h)]),(I,[.d (.int .i64 e')])]):=by cases h<;>exact r
 obtain⟨vs,rfl,G⟩:=r;obtain⟨l,t⟩:∃l,vs=List.toArray l:=⟨vs.toList,by simp⟩;subst t;simp only at G;match l,G with
 |[T,u2],⟨y,z,_⟩=>
  have y:∃ws:Array Value,T=.agg ws∧aG (λu c=>aH K k j s a w' c u) ws.toList [C.d (D.int .i64 fmt'),C.d (dN tP h)]:=y;have z:∃c,[C.d (D.int .i64 e')]=[c]∧fH u2=W∧aH K k j s a w' c u2:=z;obtain⟨ws,rfl,H⟩:=y;let⟨c,g,_,A⟩:=z;cases g;have A:u2=.int .i64 e':=A;subst A;obtain⟨l,t⟩:∃l,ws=List.toArray l:=⟨ws.toList,by simp⟩;subst t;simp only at H;match l,H with|[V,X],⟨B,Y,_⟩=>have B:V=.int .i64 fmt':=B;subst B;exact⟨X,j,rfl,⟨h1,h2,h3,R⟩,Y⟩
end
def B46:Bd:=gd func46 (sg [oI,.row dT,.ptr (.inb 0) 0] [oB] [.jl (.inb 1) 0,.cells [.n .data cW,.n .data dT,.i .i64,.l .own mU]] [[O],[O,O,O,O]]) (u3 Kf) (fy 0 [0,1,3,4,5] [5] 55 [.inb 0,.inb 1,.loc 4]) [B48,B47]
def B49:Bd:=gd func49 (sg [oI,oS] [oN]) (u2 ZA) (fy 6 [7,14,21] [4] 2113779) [B94,B95,B96]
def B50:Bd:=gd func50 (sg [oI,.one (.n .data aT)] [oS]) (u2 ZB) (fy 6 [7,14,21] [4] 2113779) [B97,B98,B99]
def B33:Bd:=gd func33 (sg [.row eM,oI] [oN]) (u2 Ke) (fx 10 [4] 68782523127 [.loc 2,.loc 9,.esc 13 0]) [K2] (ll [⟨⟨[1,7,22,23,24],[],[.slot 7 (.n .own (.int .i64)),sI 24]⟩,[(.exit 0,⟨[7],[],[.slot 7 (.n .own (.int .i64))]⟩)],O⟩])
def B39:Bd:=gd func39 (sg [.ptr (.inb 0) 0,oI] [.row eM] [.row pd] [[O,J iI]]) (u2 KB) (fy 4 [5,6,7] [4] 8454387 [.inb 0,.loc 4,.loc 5]) [B78,ZN,ZY,rN,B80] (ll [⟨⟨[0,4,5,7],[(.inb 0),(.loc 4),(.loc 5)],[sI 7,.cell (.inb 0) 1 iI,.cell (.loc 5) 0 (.n .data cW),.cell (.loc 5) 1 (.n .data dT),.cell (.loc 5) 2 iI]⟩,[(.exit 0,⟨[4,5],[(.inb 0),(.loc 4),(.loc 5)],[.cell (.inb 0) 1 iI,.cell (.loc 5) 0 (.n .data cW),.cell (.loc 5) 1 (.n .data dT),.cell (.loc 5) 2 iI]⟩)],O⟩])
def B11:Bd:=gd func11 (sg [oN] [.row eM]) KC (fx 2 [2] 5 [.loc 2,.esc 4 0]) [B40,B39]
abbrev Sj:cw:=B11.1.2
def G11:cM prog (11,Sj):=B11.2
end
end Go.Proofs.YtgbmhohlapmgbaaGreatDoor.vd
namespace Go.Proofs.YtgbmhohlapmgbaaGreatDoor.vx
noncomputable section
section
open Go Go.RowKit Go.Proofs Go.ChangeMaps Go.MapKept
open Go.Vs (Rel cm cA a6 SV C D Key cj)
open Go.Fd (lQ mS jC)
structure Sg where
 id:Int
 doc:Int
 part:Int
 fr:Int
 to:Int
 state:Int
 tp:Option Addr
 tn:Nat
 tc:Nat
 mX:ByteArray
 src:Int
 fl:Bool
def Sg.tgt(s:Sg):az:=.slice s.tp s.tn s.tc
def Sg.cells(s:Sg):bv az:=#[.int .i64 s.id,.int .i64 s.doc,.int .i64 s.part,.int .i64 s.fr,.int .i64 s.to,.int .i64 s.state,s.tgt,.string s.mX,.int .i64 s.src,.bool s.fl]
def kp(sg:U→Sg)(keep:U→ao)(num:M)(k:U)(p:M):L U:=(hY k).filter λi=>decide ((sg i).doc=num)&&(keep i&&decide ((sg i).part=p))
def GK(w:bD)(R:U)(sg:U→Sg)(keep:U→ao)(num:M)(k:U):Prop:=(∃V,GM w 41 2 (R+1) (R+3) k V (λp=>(kp sg keep num k p).length) λp=>(kp sg keep num k p).flatMap λi=>[.int .i64 (sg i).fr,.int .i64 (sg i).to])∧∃V,GM w 42 1 (R+2) (R+3) k V (λp=>(kp sg keep num k p).length) λp=>(kp sg keep num k p).map λi=>(sg i).tgt
def aqo:(a7.info? 41).map (λi=>(i.zero,i.size,i.bytes))=J (J (.agg #[.int .i64 0,.int .i64 0]),2,16):=by kernel_rfl
def aqp:(a7.info? 42).map (λi=>(i.zero,i.size,i.bytes))=J (J (.slice O 0 0),1,24):=by kernel_rfl
def Q7(w:bD):(zeroValue 113).run a7 w=.ok (.slice O 0 0) w:=by kernel_rfl
def Q8(w:bD):(zeroValue 132).run a7 w=.ok (.slice O 0 0) w:=by kernel_rfl
def abE{a:bD}{base b e d size c n j:U}{u v:az}{xs ys:L az}(o:e≠d)(h:a.ownsRow base e size u n xs)(k:a.ownsRow b d c v j ys):u.ownBlock=O∨u.ownBlock≠v.ownBlock:=by
 rcases h.2 with⟨rfl,_⟩|⟨g,cap,l,rfl,_,p,_⟩
 exact .inl rfl;rcases k.2 with⟨rfl,_⟩|⟨q,f,i,rfl,_,m,_⟩
 grind [LX];grind [LX]
def Q9{sg:U→Sg}{keep:U→ao}{num:M}{k:U}(h1:(sg k).doc=num)(h2:keep k=W)(p:M):kp sg keep num (k+1) p=if p=(sg k).part then kp sg keep num k p++[k]else kp sg keep num k p:=by grind [Proofs.YtgbmhohlapmgbaaGreatDoor.vx.kp,aaN]
def abF{sg:U→Sg}{keep:U→ao}{num:M}{k:U}(h:(sg k).doc≠num∨keep k=I)(p:M):kp sg keep num (k+1) p=kp sg keep num k p:=by unfold kp;grind [aaN]
theorem GK.keep{w w':bD}{R:U}{sg:U→Sg}{keep:U→ao}{num:M}{k k':U}(h:GK w R sg keep num k)(c:w.grownBy w' O)(e:∀p,kp sg keep num k' p=kp sg keep num k p)(hk:k≤k':=by omega):GK w' R sg keep num k':=by
 have d:∀(u:az),u.ownBlock=O∨u.ownBlock≠O:=λu=>by cases h:u.ownBlock<;>simp
 let⟨⟨f,a⟩,g,b⟩:=h;have a:=a.keep c (by simp) (λq=>d _);have b:=b.keep c (by simp) (λq=>d _);refine⟨⟨f,?_⟩,g,?_⟩;simp only[e];exact a.mono hk;simp only[e];exact b.mono hk
def aqq{w:bD}{Z:U→Prop}{us:Q (L M)}{v:az}(h:a6 w Z (vd.dN (.int .i64) us) v):∃(p:Q dt)(g off len cap:U),v=.slice p len cap∧len=(us.getD []).length∧(0<len→p=J ⟨g,off,O⟩∧Z g)∧∀(j:U)x,(us.getD [])[j]?=J x→w.cell? ⟨g,off+j,O⟩=J (.int .i64 x):=by
 cases us with
 |none=>exact⟨O,0,0,0,0,h,rfl,λh=>bX h (Nat.lt_irrefl 0),λj x c=>by simp at c⟩|some l=>
  let⟨a,cap,k,d,m,n⟩:=(Vs.a6.fR (e:=1) rfl).1 h;simp only[jf]at k m;refine⟨J a,a.block,a.off,l.length,cap,k,rfl,λt=>?_,λj x c=>?_⟩;rcases d with d|⟨d,q⟩
  omega;exact⟨by let⟨b,o,u⟩:=a;cases d;rfl,q⟩;have c:l[j]?=J x:=c;let⟨y,r⟩:=n.get (i:=j) (x:=[.int .i64 x]) (by rw[gj,c];rfl);let⟨⟨v0,f,s⟩,_⟩:=r;have f:w.cell? ⟨a.block,a.off+j*1,O⟩=J v0:=f;rw[Nat.mul_one]at f;rw[f];exact bz J s
theorem abG{w:bD}{Z:U→Prop}{a:Q (L vd.rL)}{v:az}(h:a6 w Z (vd.dN vd.tP a) v):∃p n c,v=.slice p n c:=by
 cases a with|none=>exact⟨O,0,0,h⟩|some l=>let⟨d,cap,b,_⟩:=(Vs.a6.fR (e:=3) rfl).1 h;exact⟨_,_,_,b⟩
def abH{α:Type}(a b:α→az):∀(l:L α)(k:U),(l.flatMap λi=>[a i,b i])[2*k]?=l[k]?.map a∧(l.flatMap λi=>[a i,b i])[2*k+1]?=l[k]?.map b|[],k=>by simp|x::l,0=>by simp|x::l,k+1=>by have:=abH a b l k;grind
def Ra{w:bD}{base e size n g cap:U}{xs:L az}(h:w.ownsRow base e size (.slice (J ⟨g,0,O⟩) n cap) n xs){j:U}{v:az}(c:xs[j]?=J v):w.cell? ⟨g,j,O⟩=J v:=by
 have h1:=h.1;rcases h.2 with⟨h,_⟩|⟨d,a,b,h,_,f,_,_,_,i⟩
 cases h;grind [dm]
def aqr{w:bD}{Z:U→Prop}{base n g cap:U}{l:L U}{sg:U→Sg}(h:w.ownsRow base 41 2 (.slice (J ⟨g,0,O⟩) n cap) n (l.flatMap λi=>[.int .i64 (sg i).fr,.int .i64 (sg i).to]))(hn:n=l.length)(b:n≤cap)(hZ:Z g):a6 w Z (vd.dN vd.tR (J (l.map λi=>((sg i).fr,(sg i).to)))) (.slice (J ⟨g,0,O⟩) n cap):=by
 subst hn;refine(Vs.a6.fR (e:=2) rfl).2 ⟨⟨g,0,O⟩,cap,by simp,.inr ⟨rfl,hZ⟩,by simpa using b,Vs.cH.c8 λk x a=>?_⟩;rw[gj,oh]at a;obtain⟨y,hy,rfl⟩:=a;rw[gj,oh]at hy;obtain⟨i,hi,rfl⟩:=hy;let⟨f1,f2⟩:=abH (λi=>l9 .i64 (sg i).fr) (λi=>l9 .i64 (sg i).to) l k;rw[hi]at f1 f2;have c:=Ra h f1;have d:=Ra h f2;have e:0+k*2=2*k:=by omega
 refine⟨rfl,⟨_,?_,rfl⟩,⟨_,?_,rfl⟩,trivial⟩;grind;grind
def aqs{w:bD}{Z:U→Prop}{base n g cap:U}{l:L U}{sg:U→Sg}{tg:U→Q (L (M×L ai×M))}(h:w.ownsRow base 42 1 (.slice (J ⟨g,0,O⟩) n cap) n (l.map λi=>(sg i).tgt))(hn:n=l.length)(c:n≤cap)(hZ:Z g)(d:∀i∈l,a6 w Z (vd.dN vd.tI (tg i)) (sg i).tgt):a6 w Z (vd.dN (.sl vd.tI) (J (l.map tg))) (.slice (J ⟨g,0,O⟩) n cap):=by
 subst hn;refine(Vs.a6.fR (e:=1) rfl).2 ⟨⟨g,0,O⟩,cap,by simp,.inr ⟨rfl,hZ⟩,by simpa using c,Vs.cH.c8 λk x b=>?_⟩;rw[gj,oh]at b;obtain⟨y,hy,rfl⟩:=b;rw[gj,oh]at hy;obtain⟨i,hi,rfl⟩:=hy;have m:=Ra h (j:=k) (by rw[gj,hi];rfl);have a:=d i (eA hi);have e:0+k*1=k:=by omega
 have f:Ve.aP (.sl vd.tI) (tg i)=[vd.dN vd.tI (tg i)]:=by cases tg i<;>rfl
 rw[f];refine⟨rfl,⟨(sg i).tgt,?_,a⟩,trivial⟩;grind
attribute [-go_sem] Builtin.append_
def abI:Code:=match Tryz.f42.body with|some (.seq _ (.seq _ (.seq _ r)))=>r|_=>.skip
set_option maxHeartbeats 4000000 in
set_option maxRecDepth 1000000 in
def aqt{vals:bv az}{β:Key→Q U}{ω:U→Q cj}{Z:U→Prop}{args:L SV}{boxes:L (L C)}(vb cap db dd nd aqu m k:U)(sp:Q dt)(fv:az)(keep:U→ao)(fmt:M)(hp:Q dt)(S hc:U)(ps:Q (L vd.rL))(us:Q (L M))(res:(M×Q (L vd.rL))×M)(sg:U→Sg)(tg:U→Q (L (M×L ai×M)))(w wa:bD) (hm:m<nd)(axt:(us.getD []).length≤4294967296)(H:∀x∈us.getD [],(pz .i64 x).wf=W) (c0:wa.cell? ⟨vb,0,O⟩=J (.slice (J ⟨db,dd,O⟩) nd aqu))(c1:wa.cell? ⟨db,dd+m*2,O⟩=J (.int .i64 fmt))(c2:wa.cell? ⟨db,dd+m*2+1,O⟩=J (.slice hp S hc)) (G:Hid (Rel (cm a7 0 w vals β ω Z) β ω Z (cA args boxes) {tmps:=#[],defers:=[]} w∧a6 w Z (vd.dN vd.tP ps) (.slice hp S hc)∧(∀i,i<k→a6 w Z (vd.dN vd.tI (tg i)) (sg i).tgt)∧lQ (fmt,ps)=J us∧jC (λp=>kp sg keep (m:M) k p) (λi=>((sg i).fr,(sg i).to)) tg (us.getD []) (fmt,ps)=J res)) (HG:Hid (GK wa w.heap.size sg keep (m:M) k))(hB:cn w.heap.size w wa)(hsz:w.heap.size+3≤wa.heap.size)(EC:wa.heap[w.heap.size]?=J (.cells #[.int .i64 0,.slice O 0 0] 48 (0,0)))(Rb Rc Re Rf Rg Rh Ri u32 Rj Rk Rl Rm Rn Ro Rp Rq Rr Rs Rt Ru Rv Rw Rx Ry Rz RA RC RE RF RG RH RJ RL RM RN RP RQ RS:az):Code.wp a7 abI (bodyPost a7 Tryz.f42 λe w'=>∃mW Z2,e=.returned (.tuple #[.agg #[.int .i64 res.1.1,mW],.int .i64 res.2])∧vd.EB w w' Z Z2∧a6 w' Z2 (vd.dN vd.tP res.1.2) mW) {tmps:=#[.pointer (J ⟨vb,0,O⟩),.int .i64 (m:M),fv,undef,undef,undef,.pointer (J ⟨w.heap.size,0,O⟩),.int .i64 0,.map (J (w.heap.size+1)),.map (J (w.heap.size+1+1)),Rb,Rc,undef,undef,undef,undef,undef,.map (J (w.heap.size+1)),.map (J (w.heap.size+1+1)),.pointer (J ⟨vb,0,O⟩),.pointer (J ⟨vb,0,O⟩),.pointer (J ⟨vb,0,O⟩),.pointer (J ⟨vb,1,O⟩),.slice sp k cap,.int .i64 (k:M),.int .i64 (k:M),.bool I,Re,Rf,Rg,Rh,Ri,u32,Rj,Rk,Rl,Rm,Rn,Ro,Rp,Rq,Rr,Rs,Rt,Ru,Rv,Rw,Rx,Ry,Rz,RA,RC,RE,RF,RG,RH,RJ,RL,RM,RN,RP,RQ,RS,undef,undef,undef,undef,undef,undef,undef,undef,undef,undef,undef,undef,undef,undef,undef,undef,undef,undef,undef,undef,undef,undef,undef,undef,undef,undef,undef,undef,undef,undef,undef,undef,undef,undef,undef,undef,undef,undef,undef],defers:=[]} wa:=by
 unfold abI Tryz.f42;dsimp only;have g1:(0:M)≤(m:M):=by omega
 have g2:(m:M)<(nd:M):=by omega
 obtain⟨Z1,l⟩:∃Z1:U→Prop,Z1=λb=>Z b∨(w.heap.size+3≤b∧b<wa.heap.size):=⟨_,rfl⟩;generalize K:wa.alloc (nj #[.int .i64 fmt,.slice hp S hc] 48)=W9;have z9:W9.heap.size=wa.heap.size+1:=by subst K;simp
 have hB9:cn w.heap.size w W9:=by subst K;exact hB.alloc (by omega) _
 have t0:W9.cell? ⟨wa.heap.size,0,O⟩=J (.int .i64 fmt):=by subst K;go_simp
 have t1:W9.cell? ⟨wa.heap.size,1,O⟩=J (.slice hp S hc):=by subst K;go_simp
 have hU:=vd.aqm (w:=W9) (Z1:=Z1) G.out.1 hB9 (λb h=>by rw[l];exact .inl h) (λb h=>by
  rw[l]at h
  rcases h with h|h
  have:=G.out.1.cD b h;omega
  omega) (Vs.a6.mono (λb a=>⟨hB9.block b (G.out.1.cD b a),by rw[l];exact .inl a⟩) _ _ G.out.2.1) G.out.2.2.2.1
 go_wp2_with (go_at_call 82;refine hU.mono ?_;rintro e r ⟨uv,Z2,rfl,N,hDu⟩;obtain⟨up,ub,uo,un,uc,rfl,hun,RY,huc⟩:=aqq hDu);have T:∀b,b<W9.heap.size→r.heap[b]?=W9.heap[b]? :=N.1.block;clear t0 t1 c0 c1 c2 g1 g2 hU;go_loopw [74] (λi wr=>∃j:U,j≤un∧i=.int .i64 j∧∃(y:M)(qs:Q (L vd.rL))(B:Q dt)(D F:U)(P:U→Prop),wr.heap[wa.heap.size]?=J (.cells #[.int .i64 y,.slice B D F] 48 (0,0))∧a6 wr P (vd.dN vd.tP qs) (.slice B D F)∧(∀b,Z2 b→P b)∧(∀b,P b→Z2 b∨W9.heap.size≤b)∧(∀b,P b→b<wr.heap.size)∧cn wa.heap.size wa wr∧(∀b,b<r.heap.size→b≠wa.heap.size→wr.heap[b]?=r.heap[b]?)∧r.heap.size≤wr.heap.size∧jC (λp=>kp sg keep (m:M) k p) (λi=>((sg i).fr,(sg i).to)) tg ((us.getD []).drop j) (y,qs)=J res) (λi _=>un-(intOf i).toNat)
 case atStart=>
  refine⟨0,fm _,rfl,fmt,ps,hp,S,hc,Z2,?_,?_,λ_ h=>h,λ_ h=>.inl h,N.2.2.2,?_,λ_ _ _=>rfl,dD _,G.out.2.2.2.2⟩;rw[T _ (by omega),←K];exact LZ;exact Vs.a6.mono (λb a=>⟨by have:=G.out.1.cD b a;rw[T _ (by have:=hB9.size;omega)];exact hB9.block b this,N.2.1 b (by rw[l];exact .inl a)⟩) _ _ G.out.2.1;have b1:cn wa.heap.size wa W9:=by subst K;exact(lv _ wa).alloc (dD _) _
  exact b1.trans (N.1.mono (by omega))
 case' round=>
  obtain⟨j,hj,rfl,y,qs,B,D,F,P,e1,e2,e3,e4,e5,R,e7,e8,e9⟩:=hrel;by_cases hlt:j<un
  ·obtain⟨u,hu⟩:∃u,(us.getD [])[j]?=J u:=⟨_,du (by omega)⟩;let⟨aqw,abJ⟩:=RY (by omega);subst aqw;have aqx:=N.2.2.2 ub abJ;have aqy:ub≠wa.heap.size:=by
    rcases N.2.2.1 ub abJ with h|h
    rw[l]at h;rcases h with h|h
    have:=G.out.1.cD ub h;omega;omega;omega
   have pP:wr.cell? ⟨ub,uo+j,O⟩=J (.int .i64 u):=(by rw[Vs.cell_of_heap (e7 ub aqx aqy)];exact huc j u hu);have huw:=H u (eA hu);have gg:wa.grownBy wr O:=⟨R.os,R.tape,R.output,R.size,λq hq _=>R.block q hq⟩;have ob:∀(u:az),u.ownBlock=O∨u.ownBlock≠O:=λu=>(by cases h:u.ownBlock<;>simp);let⟨⟨V8,h8⟩,V9,h9⟩:=HG.out;have L8:∀g,(V8 u).ownBlock=J g→g<wa.heap.size:=λg h=>((h8.rows u).lt g h).2;have L9:∀g,(V9 u).ownBlock=J g→g<wa.heap.size:=λg h=>((h9.rows u).lt g h).2;have h8:=h8.keep gg (by simp) (λq=>ob _);have h9:=h9.keep gg (by simp) (λq=>ob _);have hl8:=h8.look TM (E:=113) (Q7 _) huw;have hl9:=h9.look TN (E:=132) (Q8 _) huw;have R8:=h8.rows u;have R9:=h9.rows u;obtain⟨p8,n8,f8,hv8,V⟩:∃p n c,V8 u=.slice p n c∧n=(kp sg keep (m:M) k u).length:=by
    rcases R8.2 with⟨h,h0⟩|⟨g,cap,cur,h,_⟩
    grind;simp_all
   obtain⟨p9,n9,f9,hv9,hn9⟩:∃p n c,V9 u=.slice p n c∧n=(kp sg keep (m:M) k u).length:=by
    rcases R9.2 with⟨h,h0⟩|⟨g,cap,cur,h,_⟩
    grind;simp_all
   have bU:(us.getD []).drop j=u::(us.getD []).drop (j+1):=(by rw[List.drop_eq_getElem_cons (by omega)];grind);have s:=e9;rw[bU]at s;rw[hv8]at hl8 R8;rw[hv9]at hl9 R9;have t0:wr.cell? ⟨wa.heap.size,0,O⟩=J (.int .i64 y):=(by simp[dm,e1]);have t1:wr.cell? ⟨wa.heap.size,1,O⟩=J (.slice B D F):=(by simp[dm,e1]);have HV:Hid (∀q,wr.ownsRow (w.heap.size+3) 41 2 (V8 q) _ _):=h8.rows;by_cases hz:kp sg keep (m:M) k u=[];·have hn0:n8=0:=(by rw[V,hz];rfl);subst hn0;unfold jC at s;rw[ax hz]at s;clear h8 h9 HV H RY huc T gg V hn9;have Gi:Hid (∀(b:U),b<r.heap.size→b≠wa.heap.size→wr.heap[b]?=r.heap[b]?):=e7;clear e7;go_wp2;exact⟨⟨j+1,hlt,by simp,y,qs,B,D,F,P,e1,e2,e3,e4,e5,R,Gi.out,e8,s⟩,by simp[intOf];omega⟩
   ·have hpos:0<(kp sg keep (m:M) k u).length:=List.length_pos_iff.2 hz;have R8g:∃g,p8=J ⟨g,0,O⟩∧n8≤f8∧w.heap.size+3≤g∧g<wa.heap.size:=by
     have lt:=L8;rw[hv8]at lt;rcases R8.2 with⟨h,h0⟩|⟨g,cap,cur,h,a,_,hc,_⟩
     omega;cases h;exact⟨g,rfl,hc,a,lt g rfl⟩
    have R9g:∃g,p9=J ⟨g,0,O⟩∧n9≤f9∧w.heap.size+3≤g∧g<wa.heap.size:=by
     have lt:=L9;rw[hv9]at lt;rcases R9.2 with⟨h,h0⟩|⟨g,cap,cur,h,a,_,hc,_⟩
     omega;cases h;exact⟨g,rfl,hc,a,lt g rfl⟩
    obtain⟨g8,rfl,hf8,hg8,aqF⟩:=R8g;obtain⟨g9,rfl,hf9,hg9,aqI⟩:=R9g;rw[←V]at R8;rw[←hn9]at R9;have hZ3:∀b,Z b→P b:=λb h=>e3 b (N.2.1 b (by rw[l];exact .inl h));have z:cn w.heap.size w wr:=hB.trans (R.mono (by omega));have D8:=aqr (Z:=P) R8 V hf8 (e3 g8 (N.2.1 g8 (by grind)));have D9:=aqs (Z:=P) (tg:=tg) R9 hn9 hf9 (e3 g9 (N.2.1 g9 (by grind))) (λi hi=>by have hik:i<k:=(by have:=(List.mem_filter.1 hi).1;simpa using this);exact Vs.a6.mono (λb a=>⟨z.block b (G.out.1.cD b a),hZ3 b a⟩) _ _ (G.out.2.2.1 i hik));unfold jC at s;rw[aK hz]at s;obtain⟨A,qs',e',K1⟩:∃A qs' e',mS (y,qs) u (J ((kp sg keep (m:M) k u).map λi=>((sg i).fr,(sg i).to))) (J ((kp sg keep (m:M) k u).map tg))=J ((A,qs'),e'):=by
     cases hh:mS (y,qs) u (J ((kp sg keep (m:M) k u).map λi=>((sg i).fr,(sg i).to))) (J ((kp sg keep (m:M) k u).map tg))with
     |none=>rw[hh]at s;cases s
     |some x=>grind
    rw[K1]at s;have s:(if e'=0 then jC (λp=>kp sg keep (m:M) k p) (λi=>((sg i).fr,(sg i).to)) tg ((us.getD []).drop (j+1)) (A,qs')else J ((0,O),e'))=J res:=s;have hR:=vd.aqn G.out.1 z hZ3 e5 e2 D8 D9 K1;have hz8:((n8:M)==0)=I:=(by grind);have Gi:Hid (∀(b:U),b<r.heap.size→b≠wa.heap.size→wr.heap[b]?=r.heap[b]?):=e7;clear e7 h8 h9 HV H RY huc T gg V hn9 R8 R9 D8 D9 L8 L9;have f:∀(d hX:bD)(o:Obj),cn wr.heap.size wr d→d.alloc o=hX→hX.heap[w.heap.size]?=J (.cells #[.int .i64 0,.slice O 0 0] 48 (0,0))∧hX.heap[wa.heap.size]?=J (.cells #[.int .i64 y,.slice B D F] 48 (0,0))∧hX.heap.size=d.heap.size+1∧wr.heap.size≤d.heap.size:=(by intro d hX o a h;subst h;have:=a.size;have:=R.size;have Un:=(oa.1 e1).1;refine⟨?_,?_,by simp,by omega⟩;rw[Ft _ _ _ (by omega),a.block _ (by omega),R.block _ (by omega)];exact EC;rw[Ft _ _ _ (by omega),a.block _ (by omega)];exact e1);have aqJ:Hid _:=f;clear f;go_wp2_with fail;go_at_call 83;refine hR.mono ?_;rintro e d ⟨mW,Z4,rfl,t,hD4⟩;obtain⟨p',n',c',rfl⟩:=abG hD4;generalize f:d.alloc (nj #[.int .i64 A,.slice p' n' c'] 48)=hX;let⟨X,i2,i3,i4⟩:=aqJ.out d hX _ t.1 f;have j0:hX.cell? ⟨w.heap.size,0,O⟩=J (.int .i64 0):=(by simp[dm,X]);have j1:hX.cell? ⟨w.heap.size,1,O⟩=J (.slice O 0 0):=(by simp[dm,X]);have j2:hX.frozen? ⟨w.heap.size,0,O⟩=I:=(by simp[lw,X]);have j3:hX.frozen? ⟨w.heap.size,1,O⟩=I:=(by simp[lw,X]);have j4:hX.cell? ⟨wa.heap.size,0,O⟩=J (.int .i64 y):=(by simp[dm,i2]);have j5:hX.cell? ⟨wa.heap.size,1,O⟩=J (.slice B D F):=(by simp[dm,i2]);have j6:hX.frozen? ⟨wa.heap.size,0,O⟩=I:=(by simp[lw,i2]);have j7:hX.frozen? ⟨wa.heap.size,1,O⟩=I:=(by simp[lw,i2]);have j10:hX.heap[d.heap.size]?=J (.cells #[.int .i64 A,.slice p' n' c'] 48 (0,0)):=(by rw[←f];exact LZ);have j8:hX.cell? ⟨d.heap.size,0,O⟩=J (.int .i64 A):=(by simp[dm,j10]);have j9:hX.cell? ⟨d.heap.size,1,O⟩=J (.slice p' n' c'):=(by simp[dm,j10]);go_wp2;·have hne:e'≠0:=(by simp_all);rw[aK hne]at s;cases s;have yx:cn w.heap.size w hX:=(by rw[←f];exact(z.trans (t.1.mono (by have:=z.size;omega))).alloc (by have:=z.size;omega) _);let⟨y1,y2⟩:=Vs.heap_setCell (o:=0) (v:=.int .i64 0) X;let⟨y3,y4⟩:=Vs.heap_setCell (o:=1) (v:=.slice O 0 0) y1;have K4:cn w.heap.size w ((hX.setCell ⟨w.heap.size,0,O⟩ (.int .i64 0)).setCell ⟨w.heap.size,1,O⟩ (.slice O 0 0)):=(yx.setCell (dD _) _).setCell (dD _) _;clear j0 j1 j2 j3;generalize (hX.setCell ⟨w.heap.size,0,O⟩ (.int .i64 0)).setCell ⟨w.heap.size,1,O⟩ (.slice O 0 0)=Wf at *;have k0:Wf.cell? ⟨w.heap.size,0,O⟩=J (.int .i64 0):=(by simp[dm,y3]);have k1:Wf.cell? ⟨w.heap.size,1,O⟩=J (.slice O 0 0):=(by simp[dm,y3]);refine bodyPost_ret (v:=.tuple #[.agg #[.int .i64 0,.slice O 0 0],.int .i64 e']) (by simp[results,Tryz.results42,go_sem,k0,k1]) rfl ?_;exact⟨.slice O 0 0,Z,rfl,⟨K4,λ_ h=>h,λ_ h=>.inl h,λb h=>om (G.out.1.cD b h) K4.size⟩,rfl⟩
    have hne:e'=0:=(by grind);rw[ax hne]at s;let⟨y1,y2⟩:=Vs.heap_setCell (o:=0) (v:=.int .i64 A) i2;let⟨y3,y4⟩:=Vs.heap_setCell (o:=1) (v:=.slice p' n' c') y1;have hz3:=z.size;have Un:=(oa.1 e1).1;have z4n:∀b,Z4 b→b≠wa.heap.size:=by
     intro b a RT;subst RT;rcases t.2.2.1 _ a with h|h
     rcases e4 _ h with h|h
     rcases N.2.2.1 _ h with h|h
     rw[l]at h;rcases h with h|h
     have:=G.out.1.cD _ h;omega;omega;omega;omega;omega
    have Y:∀b,b<d.heap.size→hX.heap[b]?=d.heap[b]? :=λb a=>(by grind [Ft]);refine⟨⟨j+1,hlt,rfl,A,qs',p',n',c',Z4,by simpa using y3,?_,λb h=>t.2.1 b (e3 b h),λb h=>?_,λb h=>?_,?_,λb h1 h2=>?_,?_,s⟩,by simp[intOf];omega⟩;exact Vs.a6.mono (λb a=>⟨by rw[y4 b (z4n b a),y2 b (z4n b a)];exact Y b (t.2.2.2 b a),a⟩) _ _ hD4;rcases t.2.2.1 b h with h|h
    exact e4 b h;right;omega;rw[AE,AE];have:=t.2.2.2 b h;omega;have b1:cn wa.heap.size wa hX:=(by rw[←f];exact(R.trans (t.1.mono (by omega))).alloc (by omega) _);exact(b1.setCell (dD _) _).setCell (dD _) _;have a:=Gi.out b h1 h2;rw[y4 b h2,y2 b h2,Y b (by omega),t.1.block b (by omega)];exact a;rw[AE,AE];omega
  ·have T0:j=un:=(by omega);subst T0;have s:=e9;rw[List.drop_eq_nil_of_le (by omega)]at s;unfold jC at s;cases s;have X:wr.heap[w.heap.size]?=J (.cells #[.int .i64 0,.slice O 0 0] 48 (0,0)):=(by rw[R.block _ (by omega)];exact EC);have t0:wr.cell? ⟨wa.heap.size,0,O⟩=J (.int .i64 y):=(by simp[dm,e1]);have t1:wr.cell? ⟨wa.heap.size,1,O⟩=J (.slice B D F):=(by simp[dm,e1]);have j0:wr.cell? ⟨w.heap.size,0,O⟩=J (.int .i64 0):=(by simp[dm,X]);have j1:wr.cell? ⟨w.heap.size,1,O⟩=J (.slice O 0 0):=(by simp[dm,X]);have j2:wr.frozen? ⟨w.heap.size,0,O⟩=I:=(by simp[lw,X]);have j3:wr.frozen? ⟨w.heap.size,1,O⟩=I:=(by simp[lw,X]);let⟨y1,y2⟩:=Vs.heap_setCell (o:=0) (v:=.int .i64 y) X;let⟨y3,y4⟩:=Vs.heap_setCell (o:=1) (v:=.slice B D F) y1;have z:cn w.heap.size w wr:=hB.trans (R.mono (by omega));have K4:cn w.heap.size w ((wr.setCell ⟨w.heap.size,0,O⟩ (.int .i64 y)).setCell ⟨w.heap.size,1,O⟩ (.slice B D F)):=(z.setCell (dD _) _).setCell (dD _) _;have z3n:∀b,P b→b≠w.heap.size:=by
    intro b a RT;subst RT;rcases e4 _ a with h|h
    rcases N.2.2.1 _ h with h|h
    rw[l]at h;rcases h with h|h
    have:=G.out.1.cD _ h;omega;omega;omega;omega
   have D9:=Vs.a6.mono (w':=(wr.setCell ⟨w.heap.size,0,O⟩ (.int .i64 y)).setCell ⟨w.heap.size,1,O⟩ (.slice B D F)) (Z':=P) (λb a=>⟨by grind,a⟩) _ _ e2;have zsz:((wr.setCell ⟨w.heap.size,0,O⟩ (.int .i64 y)).setCell ⟨w.heap.size,1,O⟩ (.slice B D F)).heap.size=wr.heap.size:=(by simp_all);have Gi:Hid (∀(b:U),b<r.heap.size→b≠wa.heap.size→wr.heap[b]?=r.heap[b]?):=e7;clear e7 H RY huc T e9;go_wp2;generalize (wr.setCell ⟨w.heap.size,0,O⟩ (.int .i64 y)).setCell ⟨w.heap.size,1,O⟩ (.slice B D F)=Wf at *;have k0:Wf.cell? ⟨w.heap.size,0,O⟩=J (.int .i64 y):=(by simp[dm,y3]);have k1:Wf.cell? ⟨w.heap.size,1,O⟩=J (.slice B D F):=(by simp[dm,y3]);refine bodyPost_ret (v:=.tuple #[.agg #[.int .i64 y,.slice B D F],.int .i64 0]) (by simp[results,Tryz.results42,go_sem,k0,k1]) rfl ?_;refine⟨.slice B D F,rfl,P,⟨K4,λb h=>e3 b (N.2.1 b (by rw[l];exact .inl h)),λb h=>?_,λb h=>by rw[zsz];exact e5 b h⟩,D9⟩;rcases e4 b h with h|h
   rcases N.2.2.1 b h with h|h
   rw[l]at h;rcases h with h|h
   exact .inl h;right;omega;right;omega;right;omega
end
section
open Go Go.RowKit Go.Proofs Go.ChangeMaps Go.MapKept
open Go.Vs (Rel cm cA a6 SV C D Key cj)
open Go.Fd (lQ mS jC)
attribute [-go_sem] Builtin.append_
set_option maxHeartbeats 8000000 in
set_option maxRecDepth 1000000 in
def abT{vals:bv az}{β:Key→Q U}{ω:U→Q cj}{Z:U→Prop}{args:L SV}{boxes:L (L C)}(vb D H n cap db dd nd T m:U)(F:cY)(cp:bv az)(keep:U→ao)(sp:Q dt)(num fmt:M)(hp:Q dt)(V hc:U)(ps:Q (L vd.rL))(us:Q (L M))(res:(M×Q (L vd.rL))×M)(sg:U→Sg)(tg:U→Q (L (M×L ai×M)))(w:bD) (z:Rel (cm a7 0 w vals β ω Z) β ω Z (cA args boxes) {tmps:=#[],defers:=[]} w)(hvb:vb<w.heap.size)(MS:0<n→D<w.heap.size)(hdb:db<w.heap.size) (X:w.cell? ⟨vb,0,O⟩=J (.slice (J ⟨db,dd,O⟩) nd T))(aqL:num=(m:M))(hm:m<nd) (Y:w.cell? ⟨db,dd+m*2,O⟩=J (.int .i64 fmt))(U3:w.cell? ⟨db,dd+m*2+1,O⟩=J (.slice hp V hc))(hps:a6 w Z (vd.dN vd.tP ps) (.slice hp V hc)) (hc1:w.cell? ⟨vb,1,O⟩=J (.slice sp n cap))(hsp:Hid (0<n→sp=J ⟨D,H,O⟩))(hn:n≤512)(hwf:∀i,i<n→(pz .i64 (sg i).part).wf=true) (hF:F=43∧cp=#[]∨F=46∧∃a,cp=#[.pointer a])(hcall:∀k,k<n→(sg k).doc=num→∀wa,cn w.heap.size w wa→dw a7 F (#[.int .i64 (k:M),.agg #[.int .i64 (sg k).id,.int .i64 num,.int .i64 (sg k).part,.int .i64 (sg k).fr,.int .i64 (sg k).to,.int .i64 (sg k).state,.slice (sg k).tp (sg k).tn (sg k).tc,.string (sg k).mX,.int .i64 (sg k).src,.bool (sg k).fl]]++cp) wa λe w'=>e=.returned (.bool (keep k))∧cn wa.heap.size wa w') (hs:∀i,i<n→∀j v,(sg i).cells[j]?=J v→w.cell? ⟨D,H+i*10+j,O⟩=J v)(htg:∀i,i<n→a6 w Z (vd.dN vd.tI (tg i)) (sg i).tgt) (axt:(us.getD []).length≤4294967296)(husw:∀x∈us.getD [],(pz .i64 x).wf=true)(Bs:lQ (fmt,ps)=J us)(A:jC (λp=>kp sg keep num n p) (λi=>((sg i).fr,(sg i).to)) tg (us.getD []) (fmt,ps)=J res):dw a7 42 #[.pointer (J ⟨vb,0,O⟩),.int .i64 num,.func (.func F) #[] cp] w λe w'=>∃mW Z2,e=.returned (.tuple #[.agg #[.int .i64 res.1.1,mW],.int .i64 res.2])∧vd.EB w w' Z Z2∧a6 w' Z2 (vd.dN vd.tP res.1.2) mW:=by
 rcases hF with⟨rfl,rfl⟩|⟨rfl,a,rfl⟩
 all_goals
  subst aqL
  have hmm:=@run_makeMap a7
  have abU:(((w.alloc (nj #[l9 aO 0,qH O 0 0] 48)).alloc (AF #[] 0)).alloc (AF #[] 0)).cell? ⟨vb,1,O⟩=J (.slice sp n cap):=by rw[L0 _ _ _ (by simp;omega),L0 _ _ _ (by simp;omega),L0 _ _ _ hvb];exact hc1
  go_enter Tryz.func42,Tryz.ntmps42
  go_wp2
  generalize hW:((w.alloc (nj #[l9 aO 0,qH O 0 0] 48)).alloc (AF #[] 0)).alloc (AF #[] 0)=W
  have RU:cn w.heap.size w W:=by rw[←hW];exact(((lv _ w).alloc (dD _) _).alloc (by simp) _).alloc (by simp;omega) _
  have zW:W.heap.size=w.heap.size+3:=by rw[←hW];simp
  have RW:GK W w.heap.size sg keep (m:M) 0:=by have e0:∀p,kp sg keep (m:M) 0 p=[]:=λp=>rfl;have a8:=(GM.made (w.alloc (nj #[l9 aO 0,qH O 0 0] 48)) 41 2 (w.heap.size+3) (by simp)).keep (Fu _ (AF #[] 0) O) (by simp) (λ_=>.inl rfl);have a9:=GM.made ((w.alloc (nj #[l9 aO 0,qH O 0 0] 48)).alloc (AF #[] 0)) 42 1 (w.heap.size+3) (by simp);rw[hW]at a8 a9;have z1:(w.alloc (nj #[l9 aO 0,qH O 0 0] 48)).heap.size=w.heap.size+1:=(by simp);have z2:((w.alloc (nj #[l9 aO 0,qH O 0 0] 48)).alloc (AF #[] 0)).heap.size=w.heap.size+2:=(by simp);rw[z1]at a8;rw[z2]at a9;exact⟨⟨_,a8⟩,_,a9⟩
  have HH:Hid (Rel (cm a7 0 w vals β ω Z) β ω Z (cA args boxes) {tmps:=#[],defers:=[]} w∧w.cell? ⟨vb,0,O⟩=J (.slice (J ⟨db,dd,O⟩) nd T)∧w.cell? ⟨db,dd+m*2,O⟩=J (.int .i64 fmt)∧w.cell? ⟨db,dd+m*2+1,O⟩=J (.slice hp V hc)∧a6 w Z (vd.dN vd.tP ps) (.slice hp V hc)∧(∀i,i<n→a6 w Z (vd.dN vd.tI (tg i)) (sg i).tgt)∧lQ (fmt,ps)=J us∧jC (λp=>kp sg keep (m:M) n p) (λi=>((sg i).fr,(sg i).to)) tg (us.getD []) (fmt,ps)=J res):=⟨z,X,Y,U3,hps,htg,Bs,A⟩
  clear hmm hc1 abU z X Y U3 hps htg Bs A
  go_loopw [25] (λi wr=>∃k:U,k≤n∧i=.int .i64 k∧GK wr w.heap.size sg keep (m:M) k∧cn w.heap.size w wr∧w.heap.size+3≤wr.heap.size∧wr.heap[w.heap.size]?=W.heap[w.heap.size]?) (λi _=>n-(intOf i).toNat)
  case atStart=>exact⟨0,fm _,rfl,RW,RU,by omega,rfl⟩
  case' round=>
   obtain⟨k,hk,rfl,hG,hB,hsz,hR⟩:=hrel
   by_cases N:k<n
   ·have aqN:=hsp.out (by omega);subst aqN;have c:∀j v,(sg k).cells[j]?=J v→wr.cell? ⟨D,H+k*10+j,O⟩=J v:=λj v h=>(by rw[hB.cell (MS (by omega))];exact hs k N j v h);have q0:wr.cell? ⟨D,H+k*10,O⟩=J (.int .i64 (sg k).id):=c 0 _ rfl;have q1:wr.cell? ⟨D,H+k*10+1,O⟩=J (.int .i64 (sg k).doc):=c 1 _ rfl;have q2:wr.cell? ⟨D,H+k*10+2,O⟩=J (.int .i64 (sg k).part):=c 2 _ rfl;have q3:wr.cell? ⟨D,H+k*10+3,O⟩=J (.int .i64 (sg k).fr):=c 3 _ rfl;have q4:wr.cell? ⟨D,H+k*10+4,O⟩=J (.int .i64 (sg k).to):=c 4 _ rfl;have q5:wr.cell? ⟨D,H+k*10+5,O⟩=J (.int .i64 (sg k).state):=c 5 _ rfl;have q6:wr.cell? ⟨D,H+k*10+6,O⟩=J (.slice (sg k).tp (sg k).tn (sg k).tc):=c 6 _ rfl;have q7:wr.cell? ⟨D,H+k*10+7,O⟩=J (.string (sg k).mX):=c 7 _ rfl;have q8:wr.cell? ⟨D,H+k*10+8,O⟩=J (.int .i64 (sg k).src):=c 8 _ rfl;have q9:wr.cell? ⟨D,H+k*10+9,O⟩=J (.bool (sg k).fl):=c 9 _ rfl;have HG:Hid (GK wr w.heap.size sg keep (m:M) k):=hG;clear c hs RW RU hG hW husw axt hdb HH;have R:=hwf k N;have vC:=hcall k N;have hba:∀o,cn w.heap.size w (wr.alloc o):=λo=>hB.alloc (by omega) _;generalize hkk:keep k=kk at *;generalize hsg:sg k=S at *;clear hwf hcall;have HCL:Hid _:=vC;clear vC;go_wp2_with ((first|go_at_call 43|go_at_call 46);refine(HCL.out (by first|assumption|rfl) _ (hba _)).mono ?_;rintro e r ⟨rfl,f⟩)
    ·have hkt:kk=true:=(by assumption);have hst:keep k=true:=hkk.trans hkt;generalize t:wr.alloc (nj #[.int .i64 S.id,.int .i64 (m:M),.int .i64 S.part,.int .i64 S.fr,.int .i64 S.to,.int .i64 S.state,.slice S.tp S.tn S.tc,.string S.mX,.int .i64 S.src,.bool S.fl] 44)=W1 at f;have z1:W1.heap.size=wr.heap.size+1:=(by subst t;simp);have z2:wr.heap.size+1≤r.heap.size:=(by have:=f.size;omega);have b2:r.heap[wr.heap.size]?=W1.heap[wr.heap.size]? :=f.block _ (by omega);have r2:r.cell? ⟨wr.heap.size,2,O⟩=J (.int .i64 S.part):=(by rw[Vs.cell_of_heap b2];subst t;go_simp);have r3:r.cell? ⟨wr.heap.size,3,O⟩=J (.int .i64 S.fr):=(by rw[Vs.cell_of_heap b2];subst t;go_simp);have r4:r.cell? ⟨wr.heap.size,4,O⟩=J (.int .i64 S.to):=(by rw[Vs.cell_of_heap b2];subst t;go_simp);have r6:r.cell? ⟨wr.heap.size,6,O⟩=J (.slice S.tp S.tn S.tc):=(by rw[Vs.cell_of_heap b2];subst t;go_simp);obtain⟨H2,hH2⟩:∃H2,r.heap.size=H2:=⟨_,rfl⟩;have g1:wr.grownBy W1 O:=(by rw[←t];exact Fu _ _ _);have g2:wr.grownBy r O:=g1.trans ⟨f.os,f.tape,f.output,f.size,λb hb _=>f.block b hb⟩;let⟨⟨V8,l⟩,V9,d⟩:=HG.out;have y:∀q,(kp sg keep (m:M) k q).length≤512:=λq=>(by have:(kp sg keep (m:M) k q).length≤(hY k).length:=List.length_filter_le _ _;simp at this;omega);have ob:∀(u:az),u.ownBlock=O∨u.ownBlock≠O:=λu=>(by cases h:u.ownBlock<;>simp);have lt8:∀q g,(V8 q).ownBlock=J g→g<wr.heap.size:=λq g h=>((l.rows q).lt g h).2;have lt9:∀q g,(V9 q).ownBlock=J g→g<wr.heap.size:=λq g h=>((d.rows q).lt g h).2;have gd:r.grownBy r.drew O:=⟨rfl,rfl,rfl,dD _,λ_ _ _=>rfl⟩;have l:=l.keep (g2.trans gd) (by simp) (λq=>ob _);have d:=d.keep (g2.trans gd) (by simp) (λq=>ob _);let⟨i8,hi8,hz8,hs8,hb8⟩:=info_parts aqo;have aqU:=l.look TM (E:=113) (Q7 _) R;generalize ED:r.drew.alloc (nj #[.int .i64 S.fr,.int .i64 S.to] 41)=W3;have g3:r.drew.grownBy W3 O:=(by subst ED;exact Fu _ _ _);have z3:W3.heap.size=H2+1:=(by subst ED;simp;omega);have n0:W3.cell? ⟨r.heap.size,0,O⟩=J (.int .i64 S.fr):=(by subst ED;go_simp);have n1:W3.cell? ⟨r.heap.size,1,O⟩=J (.int .i64 S.to):=(by subst ED;go_simp);have l:=l.keep g3 (by simp) (λq=>ob _);have d:=d.keep g3 (by simp) (λq=>ob _);have aqV:=l.look TM (E:=113) (Q7 _) R
     let⟨v8,W4,B,ho8,g4,_,aqX⟩:=run_append_own_at (P:=a7) W3 (w.heap.size+3) 113 113 41 i8 _ 2 16 Tryz.underlying113 hi8 hz8 hs8 hb8 rfl (by decide) (V8 S.part) _ _ (l.rows S.part) ⟨r.heap.size,0,O⟩ 1 1 [.int .i64 S.fr,.int .i64 S.to] rfl
      (λj u hj=>by
        match j,hj with
        |0,hj=>cases hj;exact n0
        |1,hj=>cases hj;exact n1) (by simp[Value.oneCell']) (by have:=y S.part;unfold maxLen;omega) (by have:=y S.part;omega) (by omega)
     let⟨G,RY,g5,abW⟩:=l.put TM (by unfold maxLen;omega) R g4 ho8 (aqX.imp id λh=>⟨_,h,dD _⟩);have s2:W3.cell? ⟨wr.heap.size,2,O⟩=J (.int .i64 S.part):=(by subst ED;rw[L0 _ _ _ (show wr.heap.size<r.drew.heap.size from(by show wr.heap.size<r.heap.size;omega))];exact r2);have lT:W4.heap[wr.heap.size]?=W3.heap[wr.heap.size]? :=g4.block _ (by omega) (λh=>by have:=lt8 S.part _ h.symm;omega);have t2:W4.cell? ⟨wr.heap.size,2,O⟩=J (.int .i64 S.part):=(by rw[Vs.cell_of_heap lT];exact s2);have R0:=d;have aqY:=l.rows S.part;have R2:∀g,(V8 S.part).ownBlock=J g→w.heap.size+3≤g:=λg h=>((l.rows S.part).lt g h).1;rw[hH2]at B;clear l d HG;have z2':r.drew.heap.size=r.heap.size:=rfl;go_region;have d89:∀q,(V9 q).ownBlock=O∨(V9 q).ownBlock≠(V8 S.part).ownBlock:=λq=>abE (by decide) (R0.rows q) aqY;have d:=(R0.keep g4 (λh=>by have:=lt8 S.part;have:=R2 _ h.symm;omega) d89).keep g5 (by simp) (λq=>by
      cases h:(V9 q).ownBlock with|none=>exact .inl rfl|some g=>exact .inr λhh=>by cases hh;have:=((R0.rows q).lt _ h).1;omega)
     have b5:G.heap[wr.heap.size]?=r.heap[wr.heap.size]? :=(by rw[g5.block _ (by have:=g4.size;omega) (by simp;omega),lT,g3.block _ (by show wr.heap.size<r.heap.size;omega) (by simp)];rfl);have u2:G.cell? ⟨wr.heap.size,2,O⟩=J (.int .i64 S.part):=(by rw[Vs.cell_of_heap b5];exact r2);have u6:G.cell? ⟨wr.heap.size,6,O⟩=J (.slice S.tp S.tn S.tc):=(by rw[Vs.cell_of_heap b5];exact r6);have z5:wr.heap.size<G.heap.size:=(by have:=g4.size;have:=g5.size;omega);have s:=abW;clear aqU aqV B RY r2 r3 r4 r6 s2 t2 n0 n1 abW;go_wp2;have K5:G.grownBy G.drew O:=⟨rfl,rfl,rfl,dD _,λ_ _ _=>rfl⟩;have d:=d.keep K5 (by simp) (λq=>ob _);have s:=s.keep K5 (by simp) (λq=>ob _);let⟨i9,hi9,hz9,M2,hb9⟩:=info_parts aqp;have aq2:=d.look TN (E:=132) (Q8 _) R;obtain⟨H5,hH5⟩:∃H5,G.heap.size=H5:=⟨_,rfl⟩;generalize K6:G.drew.alloc (nj #[.slice S.tp S.tn S.tc] 42)=W6;have g6:G.drew.grownBy W6 O:=(by subst K6;exact Fu _ _ _);have z6:W6.heap.size=H5+1:=(by subst K6;simp;omega);have m0:W6.cell? ⟨G.heap.size,0,O⟩=J (.slice S.tp S.tn S.tc):=(by subst K6;go_simp);have d:=d.keep g6 (by simp) (λq=>ob _);have s:=s.keep g6 (by simp) (λq=>ob _);have aq4:=d.look TN (E:=132) (Q8 _) R
     let⟨v9,W7,B,ho9,g7,_,aq6⟩:=run_append_own_at (P:=a7) W6 (w.heap.size+3) 132 132 42 i9 _ 1 24 Tryz.underlying132 hi9 hz9 M2 hb9 rfl (by decide) (V9 S.part) _ _ (d.rows S.part) ⟨G.heap.size,0,O⟩ 1 1 [.slice S.tp S.tn S.tc] rfl
      (λj u hj=>by
        match j,hj with|0,hj=>cases hj;exact m0) (by simp[Value.oneCell']) (by have:=y S.part;unfold maxLen;omega) (by have:=y S.part;omega) (by omega)
     let⟨W8,RY,g8,abX⟩:=d.put TN (by unfold maxLen;omega) R g7 ho9 (aq6.imp id λh=>⟨_,h,dD _⟩);have s2:W6.cell? ⟨wr.heap.size,2,O⟩=J (.int .i64 S.part):=(by subst K6;rw[L0 _ _ _ (show wr.heap.size<G.drew.heap.size from z5)];exact u2);have b7:W7.heap[wr.heap.size]?=W6.heap[wr.heap.size]? :=g7.block _ (by omega) (λh=>by have:=lt9 S.part _ h.symm;omega);have t2:W7.cell? ⟨wr.heap.size,2,O⟩=J (.int .i64 S.part):=(by rw[Vs.cell_of_heap b7];exact s2);have aq7:=abX;have abY:=d.rows S.part;rw[hH5]at B;clear d abX;go_region;have axw:wr.grownBy W8 O→True:=λ_=>trivial;clear aq2 aq4 B RY s2 t2 u2 u6 m0;go_wp2;go_roundw
     case rel=>
      have EE:(sg k).doc=(m:M):=(by rw[hsg];assumption);have hpt:(sg k).part=S.part:=(by rw[hsg]);have eN:(λp=>(kp sg keep (m:M) (k+1) p).length)=λj=>if j=S.part then(kp sg keep (m:M) k S.part).length+1 else(kp sg keep (m:M) k j).length:=funext λj=>(by rw[Q9 EE hst,hpt];split<;>simp_all);have eX8:(λp=>(kp sg keep (m:M) (k+1) p).flatMap λi=>[l9 .i64 (sg i).fr,.int .i64 (sg i).to])=λj=>if j=S.part then((kp sg keep (m:M) k S.part).flatMap λi=>[l9 .i64 (sg i).fr,.int .i64 (sg i).to])++[.int .i64 S.fr,.int .i64 S.to]else(kp sg keep (m:M) k j).flatMap λi=>[l9 .i64 (sg i).fr,.int .i64 (sg i).to]:=funext λj=>(by rw[Q9 EE hst,hpt];split;rename_i h;rw[h,uW];simp[hsg];rfl);have eX9:(λp=>(kp sg keep (m:M) (k+1) p).map λi=>(sg i).tgt)=λj=>if j=S.part then((kp sg keep (m:M) k S.part).map λi=>(sg i).tgt)++[.slice S.tp S.tn S.tc]else(kp sg keep (m:M) k j).map λi=>(sg i).tgt:=funext λj=>(by rw[Q9 EE hst,hpt];split;rename_i h;rw[h,px];simp[hsg,Sg.tgt];rfl);have R3:∀g,(V9 S.part).ownBlock=J g→w.heap.size+3≤g:=λg h=>(abY.lt g h).1;have ara:=(s.keep g7 (λh=>by have:=R3 _ h.symm;omega) (λq=>abE (by decide) (s.rows q) abY)).keep g8 (by simp) (λq=>by
       cases h:((λj=>if j=S.part then v8 else V8 j) q).ownBlock with|none=>exact .inl rfl|some g=>exact .inr λhh=>by cases hh;have:=((s.rows q).lt _ h).1;omega)
      have x2:=g2.size;have xd:r.drew.heap.size=r.heap.size:=rfl;have x3:=g3.size;have x4:=g4.size;have x5:=g5.size;have xd5:G.drew.heap.size=G.heap.size:=rfl;have x6:=g6.size;have x7:=g7.size;have x8:=g8.size;have hBl:=((((((((hB.grown g2 (by omega) (by simp)).grown gd (by omega) (by simp)).grown g3 (by omega) (by simp)).grown g4 (by omega) (λq h=>by have:=R2 q h;omega)).grown g5 (by omega) (λq h=>by cases h;omega)).grown K5 (by omega) (by simp)).grown g6 (by omega) (by simp)).grown g7 (by omega) (λq h=>by have:=R3 q h;omega)).grown g8 (by omega) (λq h=>by cases h;omega);refine⟨k+1,N,by simp,⟨⟨_,by rw[eN,eX8];exact ara⟩,_,by rw[eN,eX9];exact aq7⟩,hBl,by omega,?_⟩;rw[g8.block _ (by omega) (by simp),g7.block _ (by omega) (λh=>by have:=R3 _ h.symm;omega),g6.block _ (by omega) (by simp),K5.block _ (by omega) (by simp),g5.block _ (by omega) (by simp),g4.block _ (by omega) (λh=>by have:=R2 _ h.symm;omega),g3.block _ (by omega) (by simp),gd.block _ (by omega) (by simp),g2.block _ (by omega) (by simp)];exact hR
     case measure=>simp[intOf];omega
    have hkt:kk=I:=(by assumption);have hst:keep k=I:=hkk.trans hkt;generalize t:wr.alloc (nj #[.int .i64 S.id,.int .i64 (m:M),.int .i64 S.part,.int .i64 S.fr,.int .i64 S.to,.int .i64 S.state,.slice S.tp S.tn S.tc,.string S.mX,.int .i64 S.src,.bool S.fl] 44)=W1 at f;have z1:W1.heap.size=wr.heap.size+1:=(by subst t;simp);have z2:=f.size;have g1:wr.grownBy W1 O:=(by rw[←t];exact Fu _ _ _);have g2:wr.grownBy r O:=g1.trans ⟨f.os,f.tape,f.output,f.size,λb hb _=>f.block b hb⟩;have eK:∀p,kp sg keep (m:M) (k+1) p=kp sg keep (m:M) k p:=λp=>abF (.inr hst) p;refine⟨⟨k+1,N,by simp,?_,hB.grown g2 (by omega) (by simp),by omega,?_⟩,by simp[intOf];omega⟩;exact GK.keep HG.out g2 eK;rw[g2.block _ (by omega) (by simp)];exact hR;have hd:(sg k).doc≠(m:M):=(by rw[hsg];assumption);have eK:∀p,kp sg keep (m:M) (k+1) p=kp sg keep (m:M) k p:=λp=>abF (.inl hd) p;refine⟨⟨k+1,N,by simp,?_,hB.alloc (by omega) _,by simp;omega,?_⟩,by simp[intOf];omega⟩;exact GK.keep HG.out (Fu _ _ O) eK;rw[Ft _ _ _ (by omega)];exact hR
   ·have hkn:k=n:=(by omega);subst hkn;let⟨z,X,Y,U3,hps,htg,Bs,A⟩:=HH.out;have c0:=(hB.cell (p:=⟨vb,0,O⟩) hvb).trans X;have c1:=(hB.cell (p:=⟨db,dd+m*2,O⟩) hdb).trans Y;have c2:=(hB.cell (p:=⟨db,dd+m*2+1,O⟩) hdb).trans U3;have EC:wr.heap[w.heap.size]?=J (.cells #[.int .i64 0,.slice O 0 0] 48 (0,0)):=(by rw[hR,←hW,Ft _ _ _ (by simp;omega),Ft _ _ _ (by simp)];exact LZ);have fin:=λ(cl Rb Rc Re Rf Rg Rh Ri u32 Rj Rk Rl Rm Rn Ro Rp Rq Rr Rs Rt Ru Rv Rw Rx Ry Rz RA RC RE RF RG RH RJ RL RM RN RP RQ RS:az)=>aqt (vals:=vals) (β:=β) (ω:=ω) (Z:=Z) (args:=args) (boxes:=boxes) vb cap db dd nd T m k sp cl keep fmt hp V hc ps us res sg tg w wr hm axt husw c0 c1 c2 ⟨z,hps,htg,Bs,A⟩ hG hB hsz EC Rb Rc Re Rf Rg Rh Ri u32 Rj Rk Rl Rm Rn Ro Rp Rq Rr Rs Rt Ru Rv Rw Rx Ry Rz RA RC RE RF RG RH RJ RL RM RN RP RQ RS;clear HH z X Y U3 hps htg Bs A hs hwf RW RU hW hG axt husw c0 c1 c2 EC hR hm;rename_i Q' K abZ;have HF:Hid _:=fin;have HC:Hid _:=abZ;clear fin abZ;go_wp2;exact HC.out _ _ (HF.out _ _ _ _ _ _ _ _ _ _ _ _ _ _ _ _ _ _ _ _ _ _ _ _ _ _ _ _ _ _ _ _ _ _ _ _ _ _ _)
end
open Go Go.RowKit Go.Proofs
def call43(k b c d f g st src:M)(tp:Q dt)(tn tc:U)(mX:mc)(fl:ao)(a:bD):dw a7 43 (#[.int .i64 k,.agg #[.int .i64 b,.int .i64 c,.int .i64 d,.int .i64 f,.int .i64 g,.int .i64 st,.slice tp tn tc,.string mX,.int .i64 src,.bool fl]]++ #[]) a λe w'=>e=.returned (.bool (decide (st=3)))∧cn a.heap.size a w':=by show dw a7 43 #[.int .i64 k,.agg #[.int .i64 b,.int .i64 c,.int .i64 d,.int .i64 f,.int .i64 g,.int .i64 st,.slice tp tn tc,.string mX,.int .i64 src,.bool fl]] a _;go_enter Tryz.func43,Tryz.ntmps43;go_wp2;exact bodyPost_ret (v:=.bool (st==3)) (by simp[results,Tryz.results43,go_sem]) rfl ⟨rfl,(lv _ _).alloc (dD _) _⟩
end
end Go.Proofs.YtgbmhohlapmgbaaGreatDoor.vx
namespace Go.Proofs.YtgbmhohlapmgbaaGreatDoor.vd
noncomputable section
open Go Go.Vs Go.Ve Go.Fd Go.Proofs.Tryz
abbrev kF:Ty:=.pair (.int .i64) (.sl tP)
abbrev lg:Ty:=.pair (.int .i64) (.pair (.int .i64) (.pair (.int .i64) (.pair gQ (.pair (.int .i64) (.pair (.sl tI) (.pair .str KE))))))
abbrev itV:It:=.cells [.n .data kF,.n .data lg,.i .i64,.l .own (.bB W gQ (.sl tI))]
def xv:bm:={args:=[.ptr (.inb 0) 0,.one (.i .i64),.cy 43 []],boxes:=[itV],res:=[.row kF,.one (.i .i64)],hM:=[[O,O,O,O]]}
def Ag{x:M}(h:qr x=W):(pz .i64 x).wf=W:=by simp_all [qr,Lit.wf,IntKind.min,IntKind.bits,Fc]
def ab1:az→Q dt×U×U|.slice p n c=>(p,n,c)|_=>(O,0,0)
def ab2{w:bD}{Z:U→Prop}{l:L kF.T}{v:az}(h:a6 w Z (dN kF (J l)) v){m:U}(hm:m<l.length):∃(c dd cap:U)(hp:Q dt)(hn j:U),v=.slice (J ⟨c,dd,O⟩) l.length cap∧Z c∧w.cell? ⟨c,dd+m*2,O⟩=J (.int .i64 (l[m]).1)∧w.cell? ⟨c,dd+m*2+1,O⟩=J (.slice hp hn j)∧a6 w Z (dN tP (l[m]).2) (.slice hp hn j):=by
 let⟨a,cap,p,f,q,r⟩:=(a6.fR (e:=2) rfl).1 h;simp only[jf]at p q;have g:a=⟨a.block,a.off,O⟩∧Z a.block:=by
  rcases f with f|⟨f,i⟩
  omega;exact⟨by let⟨b,o,s⟩:=a;cases f;rfl,i⟩
 let⟨c,dd,s⟩:=a;let⟨i,u⟩:=g;cases i;have d:(l.map (aP kF))[m]?=J (aP kF l[m]):=by grind
 let⟨_,k⟩:=r.get d;generalize l[m]=x at *;let⟨fmt,ps⟩:=x;have t:aP kF (fmt,ps)=[.int .i64 fmt,dN tP ps]:=by cases ps<;>rfl
 rw[t]at k;let⟨⟨v0,y,n⟩,⟨v1,z,A⟩,_⟩:=k;have n:v0=.int .i64 fmt:=n;grind [Proofs.YtgbmhohlapmgbaaGreatDoor.vx.abG]
def ab3{w:bD}{Z:U→Prop}{o:Q (L lg.T)}{v:az}(h:a6 w Z (dN lg o) v):
  ∃(sp:Q dt)(P S cap:U)(tp:U→Q dt×U×U),v=.slice sp (o.getD []).length cap∧(0<(o.getD []).length→sp=J ⟨P,S,O⟩∧Z P)∧∀i,i<(o.getD []).length→
   (∀j u,(#[.int .i64 (bH (o.getD []) i).1,.int .i64 (bH (o.getD []) i).2.1,.int .i64 (bH (o.getD []) i).2.2.1,.int .i64 (bH (o.getD []) i).2.2.2.1.1,.int .i64 (bH (o.getD []) i).2.2.2.1.2,.int .i64 (bH (o.getD []) i).2.2.2.2.1,.slice (tp i).1 (tp i).2.1 (tp i).2.2,.string ⟨(bH (o.getD []) i).2.2.2.2.2.2.1.toArray⟩,.int .i64 (bH (o.getD []) i).2.2.2.2.2.2.2.1,.bool (bH (o.getD []) i).2.2.2.2.2.2.2.2]:bv az)[j]?=J u→w.cell? ⟨P,S+i*10+j,O⟩=J u)∧
   a6 w Z (dN tI (bH (o.getD []) i).2.2.2.2.2.1) (.slice (tp i).1 (tp i).2.1 (tp i).2.2):=by
 cases o with
 |none=>exact⟨O,0,0,0,λ_=>(O,0,0),h,λh=>bX h (Nat.lt_irrefl 0),λi hi=>bX hi (Nat.not_lt_zero i)⟩|some l=>
  let⟨f,cap,V,t,g3,g4⟩:=(a6.fR (e:=10) rfl).1 h;simp only[jf]at V g3;refine⟨J f,f.block,f.off,cap,λi=>ab1 ((w.cell? ⟨f.block,f.off+i*10+6,O⟩).getD (.slice O 0 0)),V,λhl=>?_,λi hi=>?_⟩;simp only[eB]at hl;rcases t with t|⟨t,g5⟩
  omega;exact⟨by let⟨b,o,sp⟩:=f;cases t;rfl,g5⟩;simp only[eB]at hi ⊢;have m:(l.map (aP lg))[i]?=J (aP lg l[i]):=by grind
  let⟨_,y⟩:=g4.get m;have q:bH l i=l[i]:=by unfold bH;grind
  rw[q];generalize l[i]=x at *;let⟨z,A,B,⟨C,E⟩,F,k,H,K,N⟩:=x;have he:aP lg (z,A,B,(C,E),F,k,H,K,N)=[.int .i64 z,.int .i64 A,.int .i64 B,.int .i64 C,.int .i64 E,.int .i64 F,dN tI k,.str H,.int .i64 K,.bool N]:=by cases k<;>rfl
  have y:ed w Z (aP lg (z,A,B,(C,E),F,k,H,K,N)) f.block (f.off+i*10):=y;rw[he]at y;have G:=λj d(hd:[D.int .i64 z,.int .i64 A,.int .i64 B,.int .i64 C,.int .i64 E,.int .i64 F,dN tI k,.str H,.int .i64 K,.bool N][j]?=J d)=>ed.get y hd;let⟨v6,X,R⟩:=G 6 _ rfl;have g:∃p n c,v6=.slice p n c:=by
   cases k with|none=>exact⟨O,0,0,R⟩|some l'=>let⟨U2,Y,e,_⟩:=(a6.fR (e:=3) rfl).1 R;exact⟨_,_,_,e⟩
  obtain⟨p,n,c,rfl⟩:=g;rw[X];simp only[eB,ab1];refine⟨λj u a=>?_,R⟩;match j,a with
  |0,a=>cases a;let⟨v,r,s⟩:=G 0 _ rfl;rw[r];exact bz J s
  |1,a=>cases a;let⟨v,r,s⟩:=G 1 _ rfl;rw[r];exact bz J s
  |2,a=>cases a;let⟨v,r,s⟩:=G 2 _ rfl;rw[r];exact bz J s
  |3,a=>cases a;let⟨v,r,s⟩:=G 3 _ rfl;rw[r];exact bz J s
  |4,a=>cases a;let⟨v,r,s⟩:=G 4 _ rfl;rw[r];exact bz J s
  |5,a=>cases a;let⟨v,r,s⟩:=G 5 _ rfl;rw[r];exact bz J s
  |6,a=>cases a;exact X
  |7,a=>cases a;let⟨v,r,s⟩:=G 7 _ rfl;rw[r];exact bz J s
  |8,a=>cases a;let⟨v,r,s⟩:=G 8 _ rfl;rw[r];exact bz J s
  |9,a=>cases a;let⟨v,r,s⟩:=G 9 _ rfl;rw[r];exact bz J s
  |j+10,a=>simp at a
def arc:gn prog 42 (xv.F λx=>uj x.1 x.2):=by
 intro args boxes r B w vals β ω Z Y hok hpl g;unfold bm.F at B;split at B
 ·rename_i f hz;let⟨num,docs,segs,next,cont⟩:=f;let⟨h1,h2⟩:=bm.gO xv (by kernel_rfl) hz;subst h1 h2;split at B
  ·rename_i y hy;cases B;let⟨b,ws,el,lo,hi,qS,vI,hwb,hfz,o⟩:=g.boxes (.inb 0);have o:aG (λu c=>aH (cm prog 0 w vals β ω Z) β Z (cA (gV aA (xv.dG (num,docs,segs,next,cont))) (gV aJ (xv.ef (num,docs,segs,next,cont)))) {tmps:=#[],defers:=[]} w c u) ws.toList [cE (.n .data kF docs),cE (.n .data lg segs),.d (.int .i64 next),cE (.l .own (.bB W gQ (.sl tI)) cont)]:=o;let⟨v0,e0,R⟩:=o.get (j:=0) (b:=cE (.n .data kF docs)) rfl;let⟨v1,e1,S⟩:=o.get (j:=1) (b:=cE (.n .data lg segs)) rfl;rw[ta]at R S;have R:a6 w Z (dN kF docs) v0:=R;have S:a6 w Z (dN lg segs) v1:=S;have yx:b<w.heap.size:=(g.c9 b _ vI).2.1;have z:vals=#[.pointer (J ⟨b,0,O⟩),.int .i64 num,.func (.func 43) #[] #[]]:=vx.jv (l:=[.pointer (J ⟨b,0,O⟩),.int .i64 num,.func (.func 43) #[] #[]]) Y λi hi=>by
    match i,hi with
    |0,_=>let⟨b',T,V⟩:=(g.args 0).2;rw[qS]at T;cases T;exact V
    |1,_=>exact(g.args 1).2|2,_=>
     let⟨vs,T,V⟩:=(g.args 2).2;have:vs=#[]:=by
      apply Array.ext';cases hvs:vs.toList with|nil=>rfl|cons a t=>rw[hvs]at V;exact V.elim
     subst this;exact T
   subst z;simp only[uj,zU]at hy;split at hy
   ·rename_i hg;simp only[bG,eh,fO,dp]at hg;let⟨⟨hn0,D⟩,A,hwf⟩:=hg;obtain⟨l,rfl⟩:∃l,docs=J l:=by
     cases docs with|none=>simp at D;omega|some l=>exact⟨l,rfl⟩
    obtain⟨m,rfl⟩:=oq hn0;simp only[eB]at D hy;have hm:m<l.length:=(by omega);obtain⟨db,dd,s,hp,hn,X,rfl,E,d0,d1,d2⟩:=ab2 R hm;obtain⟨sp,sb,so,cap,tp,rfl,G,q⟩:=ab3 S;have R4:l.getD ((m:M)).toNat (0,O)=l[m]:=(by simp_all);rw[R4]at hy;split at hy;cases hy
    ·rename_i us Bs;split at hy
     ·rename_i H;simp only[bG,eh,fO]at H;let⟨K,N⟩:=H;have c0:w.cell? ⟨b,0,O⟩=J (.slice (J ⟨db,dd,O⟩) l.length s):=(by grind [dm]);have c1:w.cell? ⟨b,1,O⟩=J (.slice sp (segs.getD []).length cap):=(by grind [dm]);have walk:=vx.abT (vals:=#[.pointer (J ⟨b,0,O⟩),.int .i64 (m:M),.func (.func 43) #[] #[]]) (β:=β) (ω:=ω) (Z:=Z) b sb so (segs.getD []).length cap db dd l.length s m 43 #[] (λi=>decide ((bH (segs.getD []) i).2.2.2.2.1=3)) sp (m:M) (l[m]).1 hp hn X (l[m]).2 us y (λi=>{id:=(bH (segs.getD []) i).1,doc:=(bH (segs.getD []) i).2.1,part:=(bH (segs.getD []) i).2.2.1,fr:=(bH (segs.getD []) i).2.2.2.1.1,to:=(bH (segs.getD []) i).2.2.2.1.2,state:=(bH (segs.getD []) i).2.2.2.2.1,tp:=(tp i).1,tn:=(tp i).2.1,tc:=(tp i).2.2,mX:=⟨(bH (segs.getD []) i).2.2.2.2.2.2.1.toArray⟩,src:=(bH (segs.getD []) i).2.2.2.2.2.2.2.1,fl:=(bH (segs.getD []) i).2.2.2.2.2.2.2.2}) (λi=>(bH (segs.getD []) i).2.2.2.2.2.1) w g yx (λh=>g.cD _ (G h).2) (g.cD _ E) c0 rfl hm d0 d1 d2 c1 (λh=>(G h).1) A (λi hi=>Ag (hwf _ (by unfold bH;grind))) (.inl ⟨rfl,rfl⟩) (λk _ _ wa _=>vx.call43 _ _ _ _ _ _ _ _ _ _ _ _ _ wa) (λi hi=>(q i hi).1) (λi hi=>(q i hi).2) K (λx hx=>Ag (N x hx)) Bs hy;refine walk.mono ?_;rintro e w' ⟨mW,Z2,rfl,⟨R5,R6,R7,Sb⟩,hD⟩;let⟨⟨v,P⟩,e'⟩:=y;refine⟨_,β,ω,Z2,rfl,abD g hok R5 R6 R7 Sb rfl ?_ rfl ?_⟩;have:bj (λc u=>∃d,c=C.d d∧a6 w' Z2 d u) (.tuple #[.agg #[.int .i64 v,mW],.int .i64 e']) (.aX [(W,[.d (.int .i64 v),.d (dN tP P)]),(I,[.d (.int .i64 e')])]):=⟨_,rfl,⟨_,rfl,⟨_,rfl,rfl⟩,⟨_,rfl,hD⟩,trivial⟩,⟨_,rfl,rfl,_,rfl,rfl⟩,trivial⟩;cases P<;>exact this
      ·intro i cs p c X;match i,p with
       |0,p=>
        have p:[cE (.n .data kF (J l)),cE (.n .data lg segs),C.d (.int .i64 next),cE (.l .own (.bB W gQ (.sl tI)) cont)]=cs:=qG p;subst p;simp only[iA,List.not_mem_nil,or_false]at X;rcases X with rfl|rfl|rfl|rfl
        exact .inl rfl;rw[ta];exact .inl rfl;exact .inl rfl;exact .inl rfl
       |i+1,p=>have hlen:(gV aJ (xv.ef ((m:M),J l,segs,next,cont))).length=1:=rfl;grind
     cases hy
   cases hy
  cases B
 cases B
def ard:jP prog 42 (xv.F λx=>uj x.1 x.2):=oO Tryz.func42 (by kernel_rfl) rfl arc
def ab4:cw:=xv.eu (by kernel_rfl) λx=>uj x.1 x.2
def arf:cM prog (42,ab4):=ard
abbrev ab5:{p:cY×cw // cM prog p}:=⟨(42,ab4),arf⟩
set_option maxRecDepth 100000
def Sd:Bd:=gd func12 (sg [.row eM,oI] [oS,oI]) (u2 xl) (fx 9 [4,5] 66039 [.loc 2,.loc 8,.esc 12 0]) [K2,ab5,Qs]
def B16:Bd:=gd func16 (sg [.row eM,oI] [.one (.n .data alY),oI]) (u2 Kh) (fy 0 [0,1,4,5,6,7,9,11,12,13,14,16,18,19] [4,5] 5444517871408454797375612678668518686455 [.loc 2,.loc 8,.loc 10,.loc 15,.loc 17,.loc 20,.esc 24 0]) [K2,ab5,B49,B50] (ll [⟨⟨(bt 1970324836990018),[(.loc 10),(.esc 24 0)],[.slot 11 (.n .own alY),sI 12,sI 13,sI 50]⟩,[(.exit 0,⟨[11],[],[.slot 11 (.n .own alY)]⟩)],O⟩,⟨⟨(bt 1970324837104706),[(.loc 10),(.loc 15),(.esc 24 0)],[.slot 11 (.n .own alY),sI 12,sI 13]⟩,[(.exit 2,⟨(bt 1970324837022786),[(.loc 10),(.loc 15),(.esc 24 0)],[.slot 11 (.n .own alY),sI 12,sI 13]⟩)],O⟩])
end
end Go.Proofs.YtgbmhohlapmgbaaGreatDoor.vd
namespace Go.Vs
open Go
variable{cfg:bg}{P:Program}{Z:Nat→Prop}{w:World}
def ari(hT:fT P cfg){t kt:aW}{ki ei:TI}(hm:ib cfg t=J (kt,ki,ei)){sh:L Sc}(r:pI cfg kt=J sh){z:L D}{zv:az}(e:∀p w,P.underlying t=J (.map kt p)→(zeroValue p).run P w=.ok zv w)(s:gl ei.kind.agg ei.size zv)(u:DL w Z zv.cells.toList z) {v:Nat}(Y:v=cB ki ei∨v=iO (cB ki ei)){xs:L (L D)}{b:Nat}(hM:dh w Z v xs b)(y:jH sh ki.size xs=W){kd:L D}(c:bM sh kd=W)(A:ki.kind.agg=I→kd.length=1):b<w.heap.size∧∃B,gl ei.kind.agg ei.size B∧DL w Z B.cells.toList (gv ki.size xs z (dv ki.size kd xs))∧∀w':World,(∀b,Z b→w'.heap[b]?=w.heap[b]?)→w'.heap[b]?=w.heap[b]? →(uN t (.map (J b)) (dC ki.kind.agg kd) I).run P w'=.ok B w':=by
 let⟨p,C,E,MN,f,g⟩:=sB hT hm;have N:=Gb hT E r;have d:=qV f g Y;have e:=λw=>e p w C;let⟨es,bF,es',F,G,R,gp,_⟩:=(dh.mu d.it).1 hM;rw[d.oe]at G;have k:b<w.heap.size:=(oa.1 F).1;have j:=λ(w':World)(hZ:∀b,Z b→w'.heap[b]?=w.heap[b]?)=>Ge (w:=w') (Z:=Z) N f g (MH (λb h=>⟨hZ b h,h⟩) R) gp G y c A;have l:∀w':World,(Instr.checkKey es.isEmpty 10000 kt (dC ki.kind.agg kd)).run P w'=.ok () w':=λw'=>N.check w' kd _ c;cases q:dv ki.size kd xs with
 |none=>
  refine⟨k,zv,s,u,λw' hZ H=>?_⟩;rcases j w' hZ with⟨a,S,_⟩|⟨i,m,x,en,a,_⟩
  simp only[uN,cL,jF C,cO,ek,oK (H.trans F),l,S,e];rfl;grind
 |some m=>
  rcases j w (λ_ _=>rfl)with⟨a,_⟩|⟨i,m',x,en,a,S,T,n,q4,q5,_⟩
  rw[q]at a;cases a;rw[q]at a;cases a;have K:=G.ok en (eA q4);let⟨x',V,p2⟩:=pR R n;rw[T]at V;cases V;let⟨hk,hv⟩:=(vF f g).1 K;let⟨_,p4⟩:=yt hk p2;refine⟨k,en.val,hv,by simp only[gv,jv T];exact p4,λw' hZ H=>?_⟩;rcases j w' hZ with⟨a,_⟩|⟨i2,m2,x2,en2,X,r2,r3,o,r4,_⟩
  rw[q]at a;cases a;rw[q]at X;cases X;rw[n]at o;cases o;simp only[uN,cL,jF C,cO,ek,oK (H.trans F),l,r2];rfl
end Go.Vs
namespace Go.Proofs.YtgbmhohlapmgbaaGreatDoor.vd
open Go Go.Vs Go.Ve Go.Fd Go.Proofs.Tryz
abbrev xw:Ty:=.bB W (.pair (.int .i64) (.int .i64)) (.sl tI)
def arj(w:World):(zeroValue 42).run prog w=.ok (.slice O 0 0) w:=by kernel_rfl
def ark{K:Ctx}{β:Key→Q Nat}{Z:Nat→Prop}{s:St}{a:Act}{w:World}{cont:L xw.T}{u:az}(h:aH K β Z s a w (cE (.l .own xw cont)) u){d p:M}(hd:(pz .i64 d).wf=W)(hp:(pz .i64 p).wf=W):∃v,a6 w Z (dN tI ((cF (.pair (.int .i64) (.int .i64)) (d,p) cont).getD O)) v∧∃b,u=.map (J b)∧b<w.heap.size∧∀w':World,(∀b,Z b→w'.heap[b]?=w.heap[b]?)→w'.heap[b]?=w.heap[b]? →(uN 89 u (.agg #[.int .i64 d,.int .i64 p]) I).run prog w'=.ok v w':=by
 have h:aH K β Z s a w (.own xw.e (cont.map (aP xw))) u:=h;obtain⟨b,rfl,B⟩:=(aH.jh (by rfl)).1 h;have hT:fT prog QH.cfg.c:=qw rfl rfl;have g:∀k w,prog.underlying 89=J (.map 180 k)→(zeroValue k).run prog w=.ok (.slice O 0 0) w:=λk w h=>by
  have e:prog.underlying 89=J (.map 180 42):=by kernel_rfl
  rw[e]at h;cases h;exact arj w
 let⟨m,n,h1,h2,h3⟩:=ari (ki:=⟨2,16,.struct [(0,3),(1,3)],J [.int .i64 0,.int .i64 0]⟩) (ei:=⟨1,24,.slice 77,J [.nil]⟩) (sh:=[.int .i64,.int .i64]) (z:=[.nil]) (kt:=180) (kd:=aP (.pair (.int .i64) (.int .i64)) (d,p)) hT (t:=89) (by kernel_rfl) (by kernel_rfl) (zv:=.slice O 0 0) g ⟨rfl,rfl⟩ ⟨rfl,trivial⟩ (by right;kernel_rfl) B (B4 (by rfl) cont) (by rfl) (λh=>by cases h);have f:gv 2 (cont.map (aP xw)) [.nil] (dv 2 (aP (.pair (.int .i64) (.int .i64)) (d,p)) (cont.map (aP xw)))=aP (.sl tI) ((cF (.pair (.int .i64) (.int .i64)) (d,p) cont).getD O):=by
  have hk:nF (.pair (.int .i64) (.int .i64))=J [.int .i64,.int .i64]:=rfl;have:=yY (u:=W) (v:=.sl tI) hk (d,p) cont;have C:Ty.w (.pair (.int .i64) (.int .i64))=2:=rfl;rw[C]at this;rcases this with⟨q,y,_⟩|⟨i,r,q,y,E,_⟩
  rw[q,y];rfl;grind [gv,Hz]
 rw[f]at h2;refine⟨n,?_,b,rfl,m,h3⟩;generalize (cF (.pair (.int .i64) (.int .i64)) (d,p) cont).getD O=o at h2;have D:aP (.sl tI) o=[dN tI o]:=by cases o<;>rfl
 rw[D]at h2;let⟨x,F,G⟩:=h2.get (j:=0) rfl;have A:fH n=W:=h1.1;simp_all [ku]
end Go.Proofs.YtgbmhohlapmgbaaGreatDoor.vd
namespace Go.Proofs.YtgbmhohlapmgbaaGreatDoor.vd
open Go Go.Vs Go.Ve Go.Fd Go.Proofs.Tryz
section
variable{w0 w:World}{vals:Array Value}{β:Key→Option Nat}{ω:Nat→Option cj}{Z Z1:Nat→Prop}{args:List SV}{boxes:List (List C)}
def arl(m:Rel (cm prog 0 w0 vals β ω Z) β ω Z (cA args boxes) {tmps:=#[],defers:=[]} w0)(B:cn w0.heap.size w0 w)(hZ:∀b,Z b→Z1 b)(n:∀b,Z1 b→b<w.heap.size) {f:Option (List (M×List ai×M))}{fr to:M}{y:Value}{r:Option (List (M×List ai×M))}{bl:ao} (z:a6 w Z1 (dN tI f) y)(E:pb f fr to=J (r,bl)):dw prog 27 #[y,.int .i64 fr,.int .i64 to] w λe w'=>∃rv j,e=.returned (.tuple #[rv,.bool bl])∧EB w w' Z1 j∧a6 w' j (dN tI r) rv:=by
 have g:(Eu.dG (f,fr,to)).map aA=[.one (.d (dN tI f)),.one (.d (.int .i64 fr)),.one (.d (.int .i64 to))]:=by cases f<;>rfl
 refine(K3 (S:=Eu) (x:=(f,fr,to)) aaP (by kernel_rfl) rfl rfl E m B hZ n rfl (by rw[g];rfl) (λi c h e xs=>?_) (λi=>?_)).mono ?_;rw[g]at h;match i,h with|0,h=>simp[SV.cells]at h;subst h;simp|1,h=>simp[SV.cells]at h;subst h;simp|2,h=>simp[SV.cells]at h;subst h;simp|i+3,h=>simp[SV.cells]at h
 rw[g];match i with|0=>exact⟨vA z,z⟩|1=>exact⟨rfl,rfl⟩|2=>exact⟨rfl,rfl⟩|i+3=>trivial
 rintro e w' ⟨h1,v,j,K,k,s,a,rfl,h2,h3,F,o⟩;have o:bj (aH K k j s a w') v (.aX [(I,[.d (dN tI r)]),(I,[.d (.bool bl)])]):=by cases r<;>exact o
 obtain⟨vs,rfl,A⟩:=o;obtain⟨l,G⟩:∃l,vs=List.toArray l:=⟨vs.toList,by simp⟩;subst G;simp only at A;match l,A with|[u1,u2],⟨p,q,_⟩=>have p:∃c,[C.d (dN tI r)]=[c]∧fH u1=W∧aH K k j s a w' c u1:=p;have q:∃c,[C.d (D.bool bl)]=[c]∧fH u2=W∧aH K k j s a w' c u2:=q;let⟨c1,t,_,H⟩:=p;let⟨c,h,_,u⟩:=q;cases t;cases h;have u:u2=.bool bl:=u;subst u;exact⟨u1,j,rfl,⟨h1,h2,h3,F⟩,H⟩
def arn(k:Rel (cm prog 0 w0 vals β ω Z) β ω Z (cA args boxes) {tmps:=#[],defers:=[]} w0)(u:cn w0.heap.size w0 w)(hZ:∀b,Z b→Z1 b)(l:∀b,Z1 b→b<w.heap.size) {f g:Option (List (M×List ai×M))}{o p:Value}{r:ao} (q:a6 w Z1 (dN tI f) o)(t:a6 w Z1 (dN tI g) p)(y:qp f g=J r):dw prog 47 #[o,p] w λe w'=>e=.returned (.bool r)∧cn w.heap.size w w':=by
 have h:(Ew.dG (f,g)).map aA=[.one (.d (dN tI f)),.one (.d (dN tI g))]:=by cases f<;>cases g<;>rfl
 refine(K3 (S:=Ew) (x:=(f,g)) aa3 (by kernel_rfl) rfl rfl y k u hZ l rfl (by rw[h];rfl) (λi c j e xs=>?_) (λi=>?_)).mono ?_;rw[h]at j;match i,j with|0,j=>simp[SV.cells]at j;subst j;simp|1,j=>simp[SV.cells]at j;subst j;simp|i+2,j=>simp[SV.cells]at j
 rw[h];match i with|0=>exact⟨vA q,q⟩|1=>exact⟨vA t,t⟩|i+2=>trivial
 rintro e w' ⟨h1,v,z,K,m,s,a,rfl,h2,h3,B,A⟩;have n:aH K m z s a w' (.d (.bool r)) v:=A.2;have n:v=.bool r:=n;exact⟨by rw[n],h1⟩
end
end Go.Proofs.YtgbmhohlapmgbaaGreatDoor.vd
namespace Go.Proofs.YtgbmhohlapmgbaaGreatDoor.vx
open Go Go.RowKit Go.Proofs Go.ChangeMaps Go.MapKept
open Go.Vs (Rel cm cA a6 SV C D Key cj)
def aro(w:World)(a b c n cap i:Nat)(d p:M)(u v:Value)(hi:i<n)(f:w.cell? ⟨a,1,O⟩=J (.slice (J ⟨b,c,O⟩) n cap))(g:w.cell? ⟨a,3,O⟩=J u) (hd:w.cell? ⟨b,c+i*10+1,O⟩=J (.int .i64 d))(hp:w.cell? ⟨b,c+i*10+2,O⟩=J (.int .i64 p))(h:(uN 89 u (.agg #[.int .i64 d,.int .i64 p]) I).run a7 w.drew=.ok v w.drew):dw a7 93 #[.pointer (J ⟨a,0,O⟩),.int .i64 i] w λe w'=>e=.returned v∧cn w.heap.size w w':=by
 have j:(i:M)<(n:M):=by omega
 go_enter Tryz.func93,Tryz.ntmps93;go_wp2;go_region;go_wp2;refine bodyPost_ret (v:=v) (by simp[results,Tryz.results93,go_sem]) rfl ?_;exact⟨rfl,(lv _ _).drew⟩
set_option maxHeartbeats 4000000 in
def arp(w:World)(l m o n cap i:Nat)(fr to:M)(v:Value)(Q:Value→World→Prop)(hi:i<n)(x:l<w.heap.size)(p:w.cell? ⟨l,1,O⟩=J (.slice (J ⟨m,o,O⟩) n cap)) (hd:w.cell? ⟨m,o+i*10+3,O⟩=J (.int .i64 fr))(hp:w.cell? ⟨m,o+i*10+4,O⟩=J (.int .i64 to)) (g:∀w',cn w.heap.size w w'→dw a7 93 #[.pointer (J ⟨l,0,O⟩),.int .i64 i] w' λe b=>e=.returned v∧cn w'.heap.size w' b) (j:∀w',cn w.heap.size w w'→dw a7 27 #[v,.int .i64 fr,.int .i64 to] w' λe b=>∃c u,e=.returned (.tuple #[c,.bool u])∧cn w'.heap.size w' b∧Q c b):dw a7 48 #[.pointer (J ⟨l,0,O⟩),.int .i64 i] w λe w'=>∃c,e=.returned c∧cn w.heap.size w w'∧Q c w':=by
 have z:(i:M)<(n:M):=by omega
 have q:Hid _:=g;have r:Hid _:=j;clear g j;go_enter Tryz.func48,Tryz.ntmps48;go_wp2;generalize a:w.alloc (nj #[.int .i64 fr,.int .i64 to] 41)=d;have A:d.heap.size=w.heap.size+1:=by subst a;simp
 have k:cn w.heap.size w d.drew:=by subst a;exact((lv _ _).alloc (Nat.le_refl _) _).drew
 have t0:d.cell? ⟨w.heap.size,0,O⟩=J (.int .i64 fr):=by subst a;go_simp
 have t1:d.cell? ⟨w.heap.size,1,O⟩=J (.int .i64 to):=by subst a;go_simp
 have step:∀f,cn d.drew.heap.size d.drew f→cn w.heap.size w f∧f.cell? ⟨w.heap.size,0,O⟩=J (.int .i64 fr)∧f.cell? ⟨w.heap.size,1,O⟩=J (.int .i64 to):=λf h=>by have e:d.drew.heap.size=w.heap.size+1:=A;refine⟨k.trans (h.mono (by omega)),?_,?_⟩;rw[h.cell (show w.heap.size<_ by omega)];exact t0;rw[h.cell (show w.heap.size<_ by omega)];exact t1
 have B:Hid _:=step;clear p hd hp a step
 go_region_with (first
  |(go_at_call 93;refine(q.out _ k).mono ?_;rintro e f ⟨rfl,s⟩;let⟨y,D,E⟩:=B.out _ s)
  |(go_at_call 27;refine(r.out _ (by assumption)).mono ?_;rintro e F ⟨c,u,rfl,t,C⟩))
 all_goals go_wp2
 all_goals exact bodyPost_ret (v:=c) (by simp[results,Tryz.results48,go_sem]) rfl ⟨c,rfl,y.trans (t.mono y.size),C⟩
end Go.Proofs.YtgbmhohlapmgbaaGreatDoor.vx
namespace Go.Proofs.YtgbmhohlapmgbaaGreatDoor.vx
noncomputable section
section
open Go Go.RowKit Go.Proofs Go.ChangeMaps Go.MapKept
open Go.Vs (Rel cm cA a6 SV C D Key cj)
def xx(n:M):M:=if n=0 then 1 else n
def ab6(n:M):(xx n !=0)=W:=by unfold xx;split<;>simp_all
attribute [local go_sem] ab6
set_option maxHeartbeats 4000000 in
def ab7(w:bD)(B r i:U)(S:Sg)(k:ao)(Q:az→bD→Prop)(s:r<w.heap.size)(t:w.cell? ⟨r,0,O⟩=J (.pointer (J ⟨B,0,O⟩))) (a:S.state≠0→∀w',cn w.heap.size w w'→dw a7 48 #[.pointer (J ⟨B,0,O⟩),.int .i64 i] w' λe f=>∃q,e=.returned q∧cn w'.heap.size w' f∧Q q f) (b:S.state≠0→∀w' q,cn w.heap.size w w'→Q q w'→dw a7 47 #[q,.slice S.tp S.tn S.tc] w' λe f=>e=.returned (.bool k)∧cn w'.heap.size w' f):
  dw a7 46 #[.int .i64 i,.agg #[.int .i64 S.id,.int .i64 S.doc,.int .i64 S.part,.int .i64 S.fr,.int .i64 S.to,.int .i64 S.state,.slice S.tp S.tn S.tc,.string S.mX,.int .i64 S.src,.bool S.fl],.pointer (J ⟨r,0,O⟩)] w
   λe w'=>e=.returned (.bool (if S.state=0 then I else k))∧cn w.heap.size w w':=by
 by_cases c:S.state=0
 ·rw[c];clear a b;go_enter Tryz.func46,Tryz.ntmps46;go_wp2;go_region;go_wp2;exact bodyPost_ret (v:=.bool I) (by simp[results,Tryz.results46,go_sem]) rfl ⟨rfl,((lv _ _).alloc (dD _) _).drew⟩
 ·let⟨C,u,j,D,E,st,l,m,n,F,x,G⟩:=S;simp only at *;have X:xx st≠0:=by simpa using ab6 st
  have a:=a c;have b:=b c;have z:st=xx st:=by unfold xx;rw[aK c]
  clear c;rw[z];clear z;have H:Hid _:=a;have K:Hid _:=b;clear a b;go_enter Tryz.func46,Tryz.ntmps46;go_wp2;generalize d:w.alloc (nj #[.int .i64 C,.int .i64 u,.int .i64 j,.int .i64 D,.int .i64 E,.int .i64 (xx st),.slice l m n,.string F,.int .i64 x,.bool G] 44)=g;have R:g.heap.size=w.heap.size+1:=by subst d;simp
  have o:cn w.heap.size w g.drew:=by subst d;exact((lv _ _).alloc (dD _) _).drew
  have t0:g.cell? ⟨w.heap.size,5,O⟩=J (.int .i64 (xx st)):=by subst d;go_simp
  have t1:g.cell? ⟨w.heap.size,6,O⟩=J (.slice l m n):=by subst d;go_simp
  have t2:g.cell? ⟨r,0,O⟩=J (.pointer (J ⟨B,0,O⟩)):=(o.cell (p:=⟨r,0,O⟩) s).trans t;have step:∀A,cn g.drew.heap.size g.drew A→cn w.heap.size w A∧A.cell? ⟨w.heap.size,6,O⟩=J (.slice l m n):=λA h=>by have e:g.drew.heap.size=w.heap.size+1:=R;refine⟨o.trans (h.mono (by omega)),?_⟩;rw[h.cell (show w.heap.size<_ by omega)];exact t1
  have T:Hid _:=step;clear s t d step
  go_region_with (first
   |(go_at_call 48;refine(H.out _ o).mono ?_;rintro e A ⟨q,rfl,N,V⟩;let⟨y,Y⟩:=T.out _ N)
   |(go_at_call 47;refine(K.out _ _ y V).mono ?_;rintro e Z ⟨rfl,P⟩))
  all_goals go_wp2
  all_goals exact bodyPost_ret (v:=.bool k) (by simp[results,Tryz.results46,go_sem]) rfl ⟨rfl,y.trans (P.mono y.size)⟩
end
end
end Go.Proofs.YtgbmhohlapmgbaaGreatDoor.vx
namespace Go.Proofs.YtgbmhohlapmgbaaGreatDoor.vd
noncomputable section
open Go Go.Vs Go.Ve Go.Fd Go.Proofs.Tryz
open Go.RowKit (Below)
def K7{B:U}{w w':bD}(h:cn B w w'){b:U}(a:b<B):w'.heap[b]?=w.heap[b]? :=h.block b a
theorem call46{w wa:World}{vals:Array Value}{β:Key→Option Nat}{ω:Nat→Option cj}{Z:Nat→Prop}{args:List SV}{boxes:List (List C)}{K:Ctx}{s:St}{a:Act}
  (hent:Rel (cm prog 0 w vals β ω Z) β ω Z (cA args boxes) {tmps:=#[],defers:=[]} w)(hb:Below w.heap.size w wa){b cb' sb so cap:Nat}{u:Value}(v:kN)
  (yx:b<w.heap.size)(hcbl:cb'<w.heap.size)(MS:sb<w.heap.size)(hcb:w.cell? ⟨cb',0,none⟩=some (.pointer (some ⟨b,0,none⟩)))(hc1:w.cell? ⟨b,1,none⟩=some (.slice (some ⟨sb,so,none⟩) (v.2.1.getD []).length cap))(hc3:w.cell? ⟨b,3,none⟩=some u)(pP:aH K β Z s a w (cE (.l .own xw v.2.2.2)) u)
  {k:Nat}(hk:k<(v.2.1.getD []).length)(S:vx.Sg)(h1:S.doc=(bH (v.2.1.getD []) k).2.1)(h2:S.part=(bH (v.2.1.getD []) k).2.2.1)(h3:S.fr=(bH (v.2.1.getD []) k).2.2.2.1.1)(h4:S.to=(bH (v.2.1.getD []) k).2.2.2.1.2)(h5:S.state=(bH (v.2.1.getD []) k).2.2.2.2.1)
  (hs:∀j x,S.cells[j]?=some x→w.cell? ⟨sb,so+k*10+j,none⟩=some x)(htg:a6 w Z (dN tI (bH (v.2.1.getD []) k).2.2.2.2.2.1) S.tgt){kk:Bool}(hkp:qt v k=some kk)(Sf:(Lit.int .i64 S.doc).wf=true)(hwp:(Lit.int .i64 S.part).wf=true):
  Calls prog 46 #[.int .i64 (k:Int),.agg #[.int .i64 S.id,.int .i64 S.doc,.int .i64 S.part,.int .i64 S.fr,.int .i64 S.to,.int .i64 S.state,.slice S.tp S.tn S.tc,.string S.mX,.int .i64 S.src,.bool S.fl],.pointer (some ⟨cb',0,none⟩)] wa fun e w'=>e=.returned (.bool kk)∧Below wa.heap.size wa w':=by
 have hcell:∀{w':World},Below w.heap.size w w'→∀{b o:Nat}{x:Value},b<w.heap.size→w.cell? ⟨b,o,none⟩=some x→w'.cell? ⟨b,o,none⟩=some x:=by
  intro w' h b o x hb hx
  exact(h.cell (p:=⟨b,o,none⟩) hb).trans hx
 have hbt:∀{w':World},Below wa.heap.size wa w'→Below w.heap.size w w':=fun h=>hb.trans (h.mono hb.size)
 unfold qt Kf ag at hkp
 rw[←h5]at hkp
 by_cases hst:S.state=0
 ·have hkk:kk=false:=by
    grind
  subst hkk
  refine(vx.ab7 wa b cb' k S false (fun _ _=>True) (by have:=hb.size;omega) (hcell hb hcbl hcb) (fun h=>absurd hst h) (fun h=>absurd hst h)).mono ?_
  grind
 ·rw[if_pos (by simpa using hst)]at hkp
  cases hsrc:uf (k:Int) v with
  |none=>simp_all
  |some r1=>
   rw[hsrc]at hkp
   have hkp:ak (qp r1 (bH (v.2.1.getD []) k).2.2.2.2.2.1) (fun r2=>some r2)=some kk:=hkp
   cases hcm:qp r1 (bH (v.2.1.getD []) k).2.2.2.2.2.1 with
   |none=>simp_all
   |some r2=>
    rw[hcm]at hkp
    have hkp:some r2=some kk:=hkp
    cases hkp
    have hseg:(v.2.1.getD []).getD ((k:Int)).toNat ((0:Int),(0:Int),(0:Int),((0:Int),(0:Int)),(0:Int),none,[],(0:Int),false)=bH (v.2.1.getD []) k:=by rw[Int.toNat_natCast];rfl
    have hin:decide ((0:Int)≤(k:Int)∧(k:Int)<af (v.2.1.getD []))=true:=by simp_all
    unfold uf ud bY aF al aj at hsrc;dsimp-proj only[ah]at hsrc
    rw[if_pos hin,if_pos (by rw[hin];rfl),hseg,←h1,←h2,←h3,←h4]at hsrc
    obtain⟨vv,hdv,mb,rfl,hmb,hrun⟩:=ark pP Sf hwp
    generalize (cF (.pair (.int .i64) (.int .i64)) (S.doc,S.part) v.2.2.2).getD none=c at hsrc hdv
    have hsrc:ak (pb c S.fr S.to) (fun r2=>some r2.1)=some r1:=hsrc
    cases hsl:pb c S.fr S.to with
    |none=>simp_all
    |some y=>
     obtain⟨y1,bl⟩:=y
     rw[hsl]at hsrc
     have hsrc:some y1=some r1:=hsrc
     cases hsrc
     have hZl:∀{w':World},Below w.heap.size w w'→∀q,Z q→q<w'.heap.size:=fun h q hq=>Nat.lt_of_lt_of_le (hent.cD q hq) h.size
     have hZm:∀{w':World},Below w.heap.size w w'→∀{d:D}{x:Value},a6 w Z d x→a6 w' Z d x:=by
      intro w' h d x hd
      exact a6.mono (fun q hq=>⟨K7 h (hent.cD q hq),hq⟩) _ _ hd
     refine(vx.ab7 wa b cb' k S kk (fun rv w2=>∃Z2:Nat→Prop,Below w.heap.size w w2∧(∀q,Z q→Z2 q)∧(∀q,Z2 q→q<w2.heap.size)∧a6 w2 Z2 (dN tI r1) rv) (by have:=hb.size;omega) (hcell hb hcbl hcb) (fun _ w2 Gl=>?_) (fun _ w3 rv hw3 hQ=>?_)).mono ?_
     ·have hB2:=hbt Gl
      refine vx.arp w2 b sb so _ cap k S.fr S.to vv (fun rv w2=>∃Z2:Nat→Prop,Below w.heap.size w w2∧(∀q,Z q→Z2 q)∧(∀q,Z2 q→q<w2.heap.size)∧a6 w2 Z2 (dN tI r1) rv) hk (by have:=hB2.size;omega) (hcell hB2 yx hc1) (hcell hB2 MS (hs 3 _ rfl)) (hcell hB2 MS (hs 4 _ rfl)) (fun w4 hw4=>?_) (fun w4 hw4=>?_)
      ·have hB4:Below w.heap.size w w4:=hB2.trans (hw4.mono hB2.size)
       refine vx.aro w4 b sb so _ cap k S.doc S.part _ vv hk (hcell hB4 yx hc1) (hcell hB4 yx hc3) (hcell hB4 MS (hs 1 _ rfl)) (hcell hB4 MS (hs 2 _ rfl)) (hrun _ (fun q hq=>?_) ?_)
       ·exact K7 hB4.drew (hent.cD q hq)
       ·exact K7 hB4.drew hmb
      ·have hB4:Below w.heap.size w w4:=hB2.trans (hw4.mono hB2.size)
       refine(arl hent hB4 (fun q hq=>hq) (hZl hB4) (hZm hB4 hdv) hsl).mono ?_
       rintro e w5 ⟨rv,Z2,rfl,⟨g1,g2,g3,g4⟩,g5⟩
       exact⟨rv,bl,rfl,g1,Z2,hB4.trans (g1.mono hB4.size),g2,g4,g5⟩
     ·obtain⟨Z2,g1,g2,g3,g4⟩:=hQ
      exact arn hent g1 g2 g3 g4 (a6.mono (fun q hq=>⟨K7 g1 (hent.cD q hq),g2 q hq⟩) _ _ htg) hcm
     grind
def rM:bm:={args:=[.ptr (.inb 0) 0,.one (.i .i64),.cy 46 [(.inb 1,0)]],boxes:=[itV,.jl (.inb 0) 0],res:=[.row kF,.one (.i .i64)],hM:=[[O,O,O,O],[O]]}
def arx:gn prog 42 (rM.F λx=>xm x.1 x.2):=by
 intro args boxes r K w vals β ω Z hsz hok hpl a;unfold bm.F at K;split at K
 ·rename_i f hz;let⟨num,docs,segs,next,cont⟩:=f;let⟨h1,h2⟩:=bm.gO rM (by kernel_rfl) hz;subst h1 h2;split at K
  ·rename_i y hy;cases K;let⟨b,ws,el,lo,hi,P,vI,B,hfz,p⟩:=a.boxes (.inb 0);have p:aG (λu c=>aH (cm prog 0 w vals β ω Z) β Z (cA (gV aA (rM.dG (num,docs,segs,next,cont))) (gV aJ (rM.ef (num,docs,segs,next,cont)))) {tmps:=#[],defers:=[]} w c u) ws.toList [cE (.n .data kF docs),cE (.n .data lg segs),.d (.int .i64 next),cE (.l .own (.bB W gQ (.sl tI)) cont)]:=p;let⟨v,yp,A3,A4,hi2,abU,R,hwc,hfc,q⟩:=a.boxes (.inb 1);have q:aG (λu c=>aH (cm prog 0 w vals β ω Z) β Z (cA (gV aA (rM.dG (num,docs,segs,next,cont))) (gV aJ (rM.ef (num,docs,segs,next,cont)))) {tmps:=#[],defers:=[]} w c u) yp.toList [.ptr (.inb 0) 0]:=q;obtain⟨vc,ec,b',S,rfl⟩:=q.get (j:=0) (b:=.ptr (.inb 0) 0) rfl;rw[P]at S;cases S;let⟨v3,e3,r3⟩:=p.get (j:=3) (b:=cE (.l .own (.bB W gQ (.sl tI)) cont)) rfl;let⟨v0,e0,r0⟩:=p.get (j:=0) (b:=cE (.n .data kF docs)) rfl;let⟨v1,e1,r1⟩:=p.get (j:=1) (b:=cE (.n .data lg segs)) rfl;rw[ta]at r0 r1;have r0:a6 w Z (dN kF docs) v0:=r0;have r1:a6 w Z (dN lg segs) v1:=r1;have T:b<w.heap.size:=(a.c9 b _ vI).2.1;have V:v<w.heap.size:=(a.c9 v _ R).2.1;have D:vals=#[.pointer (J ⟨b,0,O⟩),.int .i64 num,.func (.func 46) #[] #[.pointer (J ⟨v,0,O⟩)]]:=vx.jv (l:=[.pointer (J ⟨b,0,O⟩),.int .i64 num,.func (.func 46) #[] #[.pointer (J ⟨v,0,O⟩)]]) hsz λi hi=>by
    match i,hi with
    |0,_=>let⟨b',q1,X⟩:=(a.args 0).2;rw[P]at q1;cases q1;exact X
    |1,_=>exact(a.args 1).2|2,_=>
     let⟨vs,q1,X⟩:=(a.args 2).2;have:vs=#[.pointer (J ⟨v,0,O⟩)]:=by
      apply Array.ext';match hvs:vs.toList,X with|[u],X=>let⟨⟨c',g1,g2⟩,_⟩:=X;grind
     subst this;exact q1
   subst D;simp only[xm]at hy;split at hy;case isFalse=>cases hy
   rename_i Y;simp only[fO,List.mem_range]at Y;simp only[zU]at hy;split at hy
   ·rename_i hg;simp only[bG,eh,fO,dp]at hg;let⟨⟨hn0,vJ⟩,E,hwf⟩:=hg;obtain⟨l,rfl⟩:∃l,docs=J l:=by
     cases docs with|none=>simp at vJ;omega|some l=>exact⟨l,rfl⟩
    obtain⟨m,rfl⟩:=oq hn0;simp only[eB]at vJ hy;have hm:m<l.length:=(by omega);obtain⟨db,dd,z,hp,hn,N,rfl,hZdb,d0,d1,d2⟩:=ab2 r0 hm;obtain⟨sp,sb,so,cap,tp,rfl,G,o⟩:=ab3 r1;have R4:l.getD ((m:M)).toNat (0,O)=l[m]:=(by simp_all);rw[R4]at hy;split at hy;cases hy
    ·rename_i us Bs;split at hy
     ·rename_i hg2;simp only[bG,eh,fO]at hg2;let⟨axt,husw⟩:=hg2;have c0:w.cell? ⟨b,0,O⟩=J (.slice (J ⟨db,dd,O⟩) l.length z):=(by rw[oc]at e0;simp[dm,B,e0]);have c1:w.cell? ⟨b,1,O⟩=J (.slice sp (segs.getD []).length cap):=(by rw[oc]at e1;simp[dm,B,e1]);refine(vx.abT (vals:=#[.pointer (J ⟨b,0,O⟩),.int .i64 (m:M),.func (.func 46) #[] #[.pointer (J ⟨v,0,O⟩)]]) (β:=β) (ω:=ω) (Z:=Z) b sb so (segs.getD []).length cap db dd l.length z m 46 #[.pointer (J ⟨v,0,O⟩)] (λi=>(qt (J l,segs,next,cont) i).getD I) sp (m:M) (l[m]).1 hp hn N (l[m]).2 us y (λi=>{id:=(bH (segs.getD []) i).1,doc:=(bH (segs.getD []) i).2.1,part:=(bH (segs.getD []) i).2.2.1,fr:=(bH (segs.getD []) i).2.2.2.1.1,to:=(bH (segs.getD []) i).2.2.2.1.2,state:=(bH (segs.getD []) i).2.2.2.2.1,tp:=(tp i).1,tn:=(tp i).2.1,tc:=(tp i).2.2,mX:=⟨(bH (segs.getD []) i).2.2.2.2.2.2.1.toArray⟩,src:=(bH (segs.getD []) i).2.2.2.2.2.2.2.1,fl:=(bH (segs.getD []) i).2.2.2.2.2.2.2.2}) (λi=>(bH (segs.getD []) i).2.2.2.2.2.1) w a T (λh=>a.cD _ (G h).2) (a.cD _ hZdb) c0 rfl hm d0 d1 d2 c1 (λh=>(G h).1) E (λi hi=>Ag (hwf _ (by unfold bH;simp_all))) (.inr ⟨rfl,_,rfl⟩) (λk hk s wa hwa=>?hcall) (λi hi=>(o i hi).1) (λi hi=>(o i hi).2) axt (λx hx=>Ag (husw x hx)) Bs hy).mono ?_;case hcall=>have H:(pz .i64 (bH (segs.getD []) k).2.2.1).wf=W:=Ag (hwf _ (by unfold bH;simp_all));have t:=Y k hk;have s:(bH (segs.getD []) k).2.1=(m:M):=s;have t:(!decide ((bH (segs.getD []) k).2.1=(m:M))||(qr (bH (segs.getD []) k).2.1&&(qt (J l,segs,next,cont) k).isSome))=W:=t;rw[decide_eq_true s,Bool.not_true,Bool.false_or,bG]at t;let⟨Sf,hsm⟩:=t;let⟨kk,hkk⟩:=Option.isSome_iff_exists.1 hsm;obtain⟨rfl,arB⟩:=G (by omega);have c3:w.cell? ⟨b,3,O⟩=J v3:=(by rw[oc]at e3;simp[dm,B,e3]);have cc:w.cell? ⟨v,0,O⟩=J (.pointer (J ⟨b,0,O⟩)):=(by rw[oc]at ec;simp[dm,hwc,ec]);have EE:(pz .i64 (bH (segs.getD []) k).2.1).wf=W:=Ag Sf;rw[←s];have:=call46 a hwa (J l,segs,next,cont) T V (a.cD _ arB) cc c1 c3 r3 hk {id:=(bH (segs.getD []) k).1,doc:=(bH (segs.getD []) k).2.1,part:=(bH (segs.getD []) k).2.2.1,fr:=(bH (segs.getD []) k).2.2.2.1.1,to:=(bH (segs.getD []) k).2.2.2.1.2,state:=(bH (segs.getD []) k).2.2.2.2.1,tp:=(tp k).1,tn:=(tp k).2.1,tc:=(tp k).2.2,mX:=⟨(bH (segs.getD []) k).2.2.2.2.2.2.1.toArray⟩,src:=(bH (segs.getD []) k).2.2.2.2.2.2.2.1,fl:=(bH (segs.getD []) k).2.2.2.2.2.2.2.2} rfl rfl rfl rfl rfl (o k hk).1 (o k hk).2 hkk EE H;rw[hkk];exact this
      rintro e w' ⟨mW,Z2,rfl,⟨R5,R6,R7,Sb⟩,hD⟩;let⟨⟨A,ps'⟩,e'⟩:=y;refine⟨_,β,ω,Z2,rfl,abD a hok R5 R6 R7 Sb rfl ?_ rfl ?_⟩;have:bj (λc u=>∃d,c=C.d d∧a6 w' Z2 d u) (.tuple #[.agg #[.int .i64 A,mW],.int .i64 e']) (.aX [(W,[.d (.int .i64 A),.d (dN tP ps')]),(I,[.d (.int .i64 e')])]):=⟨_,rfl,⟨_,rfl,⟨_,rfl,rfl⟩,⟨_,rfl,hD⟩,trivial⟩,⟨_,rfl,rfl,_,rfl,rfl⟩,trivial⟩;cases ps'<;>exact this
      ·intro i cs g c N;match i,g with
       |0,g=>
        have g:[cE (.n .data kF (J l)),cE (.n .data lg segs),C.d (.int .i64 next),cE (.l .own (.bB W gQ (.sl tI)) cont)]=cs:=qG g;subst g;simp only[iA,List.not_mem_nil,or_false]at N;rcases N with rfl|rfl|rfl|rfl
        exact .inl rfl;rw[ta];exact .inl rfl;exact .inl rfl;exact .inl rfl
       |1,g=>have g:[C.ptr (.inb 0) 0]=cs:=qG g;subst g;simp only[iA,List.not_mem_nil,or_false]at N;subst N;exact .inl rfl|i+2,g=>have hlen:(gV aJ (rM.ef ((m:M),J l,segs,next,cont))).length=2:=rfl;grind
     cases hy
   cases hy
  cases K
 cases K
def arC:jP prog 42 (rM.F λx=>xm x.1 x.2):=oO Tryz.func42 (by kernel_rfl) rfl arx
def ab8:cw:=rM.eu (by kernel_rfl) λx=>xm x.1 x.2
def arD:cM prog (42,ab8):=arC
abbrev arE:{p:cY×cw // cM prog p}:=⟨(42,ab8),arD⟩
set_option maxRecDepth 100000
def B14:Bd:=gd func14 (sg [.row eM,oI] [oS,oI]) (u2 Kg) (fx 9 [4,5] 66039 [.loc 2,.loc 6,.loc 8,.esc 12 0]) [K2,arE,Qs,B46]
abbrev C14:cw:=B14.1.2
def G14:cM prog (14,C14):=B14.2
def B10:Bd:=gd func10 (sg [] [oB]) (λ_=>zV) (fx 14 [0] 16339 [.loc 1,.loc 4]) [Qg,ZN,ZY,B38,Sd,B14,B16,B18,B33,ZZ]
abbrev Si:cw:=B10.1.2
def G10:cM prog (10,Si):=B10.2
def F4:gq:={cfg:={N:=47,T:=T,R:=R,eu:=λ_ f=>nO f [(9,C9),(10,Si),(11,Sj),(14,C14),(15,C15)],var:=[0,1,2,3,4,5,6,7,8,9,10,11],res:=[4],eqs:=EQ,dat:=[2,3,4,5,6,7,8,9,10,11],mh:=W},keys:=[0,1,4,5,7,8,9,10,11,14,19,20,21,22,44],fQ:=[.loc 5]}
def S4:bm:={args:=[.one (.n .data (.int .i64)),.one (.i .i64)],boxes:=[],res:=[.one .b],hM:=[],bR:=[]}
def L4:U→Q fD:=λn=>match n with|0=>J {head:={live:=[5,19,20,21],fC:=[(.loc 5)],vs:=[.slot 21 (.i .i64)]},fE:=[(.ret,{live:=[4],fC:=[],vs:=[.slot 4 .b]}),(.exit 0,{live:=[],fC:=[],vs:=[]})]}|_=>O
set_option maxRecDepth 100000 in
def ayp:∀x,rm F4 L4 f4 S4 x=(λx=>abq x.1 x.2) x:=by intro x;kernel_rfl
def fn4:gn prog 4 (S4.F (λx=>abq x.1 x.2)):=tJ (F:=F4) (tbl:=L4) func4 (by kernel_rfl) mix (wG (l:=[(9,C9),(10,Si),(11,Sj),(14,C14),(15,C15)]) (qw rfl rfl) rfl (gH.2 ⟨G9,gH.2 ⟨G10,gH.2 ⟨G11,gH.2 ⟨G14,gH.2 ⟨G15,by simp⟩⟩⟩⟩⟩)) (by kernel_rfl) (by kernel_rfl) (by decide) (λ_=>by kernel_rfl) ayp
end
end Go.Proofs.YtgbmhohlapmgbaaGreatDoor.vd
namespace Go.Proofs.YtgbmhohlapmgbaaGreatDoor.exportPreviews
open Go Go.ChangeShapes Go.WideShapes Go.ChangeAt Go.RowKit Go.Vs Go.Ve Go.Fd Go.Proofs.YtgbmhohlapmgbaaGreatDoor.vd
def own:ownKnob a7.godebug=O:=by kernel_rfl
def B(H:Type):pW H where
 one:=Fz
 all:=aeY
 str:=λ_=>by simp only[Fz]
 slice:=λ_ _=>by simp only[Fz]
 agg:=λ_=>by simp only[Fz]
 pos:=λd=>by
  cases d with
  |lit l=>cases l<;>simp only[Fz]<;>omega
  |_=>simp only[Fz]<;>omega
 nil:=by simp only[aeY]
 cons:=λ_ _=>by simp only[aeY]
def aey:L M:=[1,10,100,1000,10000,100000,1000000,10000000,100000000,1000000000,10000000000,100000000000,1000000000000,10000000000000,100000000000000,1000000000000000,10000000000000000,100000000000000000,1000000000000000000,10000000000000000000]
def av5:su a7=[(1,aey.map λz=>.int .u64 z)]:=by kernel_rfl
def av6{a:bD}(h:laidMetH a7 aae.laid a):∀g l,(g,l)∈su a7→g<a.heap.size∧oD a g l:=by rw[MakeChecks.laidMetH_plain _ _ _ (by kernel_rfl)]at h;have h1:oD a 1 (aey.map λz=>.int .u64 z):=akE (n:= "internal/strconv.uint64pow10") (t:=372) (e:=299) (N:=20) h (eA (i:=2) (by kernel_rfl)) (by kernel_rfl) (by kernel_rfl) (by kernel_rfl) (by kernel_rfl) (by kernel_rfl) (by kernel_rfl) (by kernel_rfl);intro g l b;rw[av5,ng]at b;cases b;exact⟨akF h1 (v:=.int .u64 1) rfl,h1⟩
def av7:vq a7=[0]:=by kernel_rfl
def av8{a:bD}(h:a.ShapedOpen a7):∀g,g∈vq a7→g<a.heap.size∧vr a g:=by intro g b;rw[av7,ng]at b;subst b;exact akG (t:=3) (zero:=#[.int .i64 0]) h (xX (by kernel_rfl)) (by kernel_rfl) rfl (by kernel_rfl) (by kernel_rfl) (by kernel_rfl)
set_option maxRecDepth 100000 in
def contract(H:Type)(enc:aW×az→H)(a:bD)(base:U)(args:bv az)(ds f:L (iN H))(b:L MemPlace) (d:∀(j:U)t v,aaH.params[j]?=J t→args[j]?=J v→Value.okWide a7 a .any base t v) (i:DataW.Whole enc a7 aaH.params.toList aaK.vars I a args.toList ds f b)(hk:Rows.uptoSmall H (ds++f)=W)(k:laidMetH a7 aae.laid a)(o:a.ShapedOpen a7):dw a7 4 args a λe W'=>∃v,e=.returned v∧aaK.post enc a7 aaH I W I I a args v W':=
 akD (cfg:=F4.cfg.c) (l:=S4.args) (n:=20) (m:=1048576) (ts:=aaH.params.toList) (sp:=aaK) (by kernel_rfl) fn4 (qw rfl rfl) rfl rfl (tb:=4) (by kernel_rfl) (by kernel_rfl)
  (by kernel_rfl) (by
    intro t g
    exact fO.1 (by kernel_rfl:aaH.params.toList.all (λt=>nC F4.cfg.c 20 t)=W) t g) (by kernel_rfl)
  (by
    intro t g
    have:=fO.1 (by kernel_rfl:aaH.params.toList.all (λt=>a7.readableRec t&&Nat.blt t a7.types.size)=W) t g
    rw[bG,Nat.blt_eq]at this
    exact this) (B H) (uV (Zf (B H) ds f) (iB hk))
  (λx p q=>⟨x,rfl,ayx x.1 x.2⟩)
  (λds h=>by
    match ds,h with|[d1,d2],_=>rfl)
  ⟨(av6 k),(av8 o)⟩ d i
def av9:iN Unit→L az
 |.lit l=>[l.value]|.agg ps=>ps.flatMap λd=>match d with|.lit l=>[l.value]|_=>[]
 |_=>[]
def E8:iN Unit→L az|.agg ps=>ps.flatMap av9|_=>[]
def setCells(cs:L az):Obj→Obj|.cells _ t frozen=>.cells cs.toArray t frozen|o=>o
noncomputable def Tq(os:Os):bD:={afU a7 os ⟨#[], #[],[]⟩with heap:=((((((afU a7 os ⟨#[], #[],[]⟩).heap.modify 4 (setCells (E8 Rows.laid_math_bits_deBruijn32tab))).modify 5 (setCells (E8 Rows.laid_math_bits_deBruijn64tab))).modify 1 (setCells (E8 Rows.laid_internal_strconv_uint64pow10))).modify 3 (setCells (E8 Rows.laid_unicode_utf8_acceptRanges))).modify 2 (setCells (E8 Rows.laid_unicode_utf8_first)))}
def awa(os:Os):laidMet a7 aae.laid ((Tq os).forCall (λ_ _=>0) ⟨#[], #[.slice O 0 0,.int .i64 0],[]⟩).memory:=laidMet_of_run' 300 (by kernel_rfl) (by kernel_rfl)
def reads(os:Os){H:Type}(enc:aW×az→H):∃places,DataW.whole enc a7 ((Tq os).forCall (λ_ _=>0) ⟨#[], #[.slice O 0 0,.int .i64 0],[]⟩).memory aaH.params.toList aaK.vars I (#[.slice O 0 0,.int .i64 0]:bv az).toList 8=J ([.nil,.lit (.int .i64 0)],[],places):=⟨[],by kernel_rfl⟩
set_option maxRecDepth 100000 in
def lifted(os:Os)(b:os.Started)(H:Type)(enc:aW×az→H)(F:Stop.Interp):
  ReturnsInHanded {} aeZ os 4 .any ((me aaK).preRow enc a7 aaH aae.domain I aae.laid) (((me aaK).at F).post enc a7 aaH I W I I):=by
 obtain⟨places,f⟩:=reads os enc
 refine returnsInHanded_of_row (C:=aeZ) (s:=me aaK) own b (by kernel_rfl) ao7
  (witness_row_at (enc:=enc) (C:=aeZ) I (Tq os) #[.slice O 0 0,.int .i64 0] rfl (by kernel_rfl) (by kernel_rfl) (by kernel_rfl)
    (OpenSpec.preRow_of_cond 8 f (by kernel_rfl) (λk hk=>by cases hk;kernel_rfl) (by kernel_rfl) (awa os))) ?_
 intro a base args ds g c e h _ d _ i j _
 exact contract H enc a base args ds g c e h (d _ rfl) i j
def over:aae.holds rZ (me aaK):=OpenClaim.holds_of_cond 4 aaH rfl rfl rfl rfl rfl rfl rfl ⟨rfl,rfl,rfl,rfl,rfl⟩ rfl rfl rfl rfl rfl h1 ao7 closed h2 h3 (λos a H b _ F=>by rw[OpenClaim.pre_eq_preRow];exact lifted os a H b F)
def plain(f:cY)(fn:Func)(b:rZ.checked.prog.funcNamed "bitext/bitextlaw35.ExportPreviews" =J f)(a:rZ.checked.prog.funcs[f]?=J fn):W=rZ.checked.prog.looks []∧∀(j:U)t,fn.params[j]?=J t→rZ.checked.prog.wantsStandIn t=I:=by obtain rfl:f=4:=qG ((show a7.funcNamed "bitext/bitextlaw35.ExportPreviews" =J 4 from h1).symm.trans b)|>.symm;obtain rfl:fn=aaH:=(qG (ao7.symm.trans a)).symm;refine⟨by kernel_rfl,λj t c=>?_⟩;have d:t∈aaH.params.toList:=Array.mem_toList_iff.2 (Array.mem_of_getElem? c);have:=fO.1 (by kernel_rfl:aaH.params.toList.all (λt=> !a7.wantsStandIn t)=W) t d;show a7.wantsStandIn t=I;simpa using this
theorem proved:Rows.ExportPreviewsUptoCardSaid:=Claim7.holds_tied_plain_at .later [] _ _ (W,"6419a547cb5836e536c90ec6741d6b42776b1268389dc43d936a11af80ff430a") _ over (λ_ h=>by cases h) hwf (λ_ h=>by cases h) exportPreviewsUpto_row_tie rfl ⟨rfl,rfl⟩ hmain rfl plain hgoes
end Go.Proofs.YtgbmhohlapmgbaaGreatDoor.exportPreviews
#print axioms Go.Proofs.YtgbmhohlapmgbaaGreatDoor.exportPreviews.proved
