/- The weakest precondition as a function: operations and calls: it serves. -/
import Derived.Test.YtmcdngcjakjnmaaGreatDoorJri
namespace Go.Eng
def wab(b:Bool)(P Q:Prop):Prop:=match b with
 |true=>P
 |false=>Q
theorem wam{b:Bool}{P Q:Prop}(h1:b=true->P)(h2:b=false->Q):wab b P Q:=by
 cases b with
 |true=>exact h1 rfl
 |false=>exact h2 rfl
theorem wbt{b:Bool}{P Q:Prop}(h:wab b P Q):(b=true->P)/\(b=false->Q):=by
 cases b with
 |true=>exact⟨λ_=>h,λh=>(nomatch h)⟩
 |false=>exact⟨λh=>(nomatch h),λ_=>h⟩
@[simp] theorem condP_true {P Q:Prop}:wab true P Q=P:=rfl
@[simp] theorem condP_false {P Q:Prop}:wab false P Q=Q:=rfl
abbrev Spec:=List AV->List AObj->Option (AV×List (Nat×AObj)×Prop)
abbrev wdm:=List AV->List AObj->(AV->List (Nat×AObj)->Prop)->Prop
inductive CSpec where
 |det (S:Spec)
 |rel (S:wdm)
abbrev waq:=St->(Exit->St->Prop)->Prop
structure Env where
 te:TE
 calls:List (Nat×CSpec)
 loops:List (Nat×waq)
 m:Nat
 N:Nat
 fuel:Nat:=0
mutual
def wir:AV->List Nat
 |.ptr r _=>[r]
 |.eptr r _ _ _=>[r]
 |.own r _=>[r]
 |.sub r _ _ _=>[r]
 |.map r=>[r]
 |.func _ l=>refsL l
 |.iface _ v=>wir v
 |.agg l=>refsL l
 |.tuple l=>refsL l
 |_=>[]
def refsL:List AV->List Nat
 |[]=>[]
 |u::l=>wir u++refsL l
end
def refsO(te:TE):AObj->List Nat
 |.cells cs t=>match lk te t with
  |some _=>refsL cs
  |none=>[]
 |.miter m _ _=>[m]
 |.rmap _ _ (some u)=>wir u
 |_=>[]
def wbj(te:TE)(O:List (Nat×AObj)):Nat->List Nat->List Nat->List Nat
 |0,_,seen=>seen
 |_+1,[],seen=>seen
 |k+1,r::todo,seen=>match hasN seen r with
  |true=>wbj te O k todo seen
  |false=>match lk O r with
   |some o=>match o.mut with
    |true=>wbj te O k (todo++refsO te o) (seen++[r])
    |false=>wbj te O k todo seen
   |none=>wbj te O k todo seen
def wb1:AObj->Prop->Prop
 |.row _ _ n f _,P=>(∀i,i<n->nrefL (f i)=true)/\P
 |_,P=>P
def wbv:List (Nat×AObj)->Prop->Prop
 |[],P=>P
 |o::l,P=>wb1 o.2 (wbv l P)
def wg7:List AObj->Prop->Prop
 |[],P=>P
 |o::l,P=>wb1 o (wg7 l P)
def rnO?(σ:Nat->Option Nat):AObj->Option AObj
 |.cells cs t=>some (.cells (AV.rnL σ cs) t)
 |.row t sz n f fr=>some (.row t sz n f fr)
 |.amap es=>some (.amap (es.map λp=>(p.1.rn σ,p.2.rn σ)))
 |.siter s p=>some (.siter s p)
 |.miter m n l=>match σ m with
  |some m'=>some (.miter m' n l)
  |none=>none
 |.rmap es j v=>some (.rmap es j (v.map λu=>u.rn σ))
 |.dead=>some .dead
def wc2(ρ:Nat->Option Nat)(O:Nat->Option AObj):List Nat->Option (List AObj)
 |[]=>some []
 |r::l=>match O r with
  |some o=>match o.mut with
   |true=>match rnO? ρ o with
    |some o'=>match wc2 ρ O l with
     |some l'=>some (o'::l')
     |none=>none
    |none=>none
   |false=>none
  |none=>none
def unsA:Option AV->Bool
 |some (.int .u8 _)=>true
 |some (.int .u16 _)=>true
 |some (.int .u32 _)=>true
 |some (.int .u64 _)=>true
 |_=>false
def wel(pass:List Nat)(k:Nat):List (Nat×AObj)->Option (List (Nat×AObj))
 |[]=>some []
 |p::l=>match rnO? (sig pass k) p.2,wel pass k l with
  |some o,some l'=>some ((sigN pass k p.1,o)::l')
  |_,_=>none
def wad:List (Nat×AObj)->List (Nat×AObj)->Prop
 |[],[]=>True
 |(r,.row t sz n f fr)::l,(r',.row t' sz' n' f' fr')::l'=>(r=r'/\t=t'/\sz=sz'/\n=n'/\fr=fr'/\∀i,i<n->f i=f' i)/\wad l l'
 |p::l,p'::l'=>p=p'/\wad l l'
 |_,_=>False
def wpm:List (Nat×AObj)->Bool
 |[]=>false
 |(_,.row _ _ _ _ _)::_=>true
 |_::l=>wpm l
def rowR(O:List (Nat×AObj))(R:List (Nat×AObj)->Prop):Prop:=match wpm O with
 |true=>∃O',wad O O'/\R O'
 |false=>R O
def wid(T:Nat->Option AV):Op->Bool
 |.move _=>true
 |.assign _=>true
 |.pick _ _ _=>true
 |.nilCheck _=>true
 |.unOp .not _ _=>true
 |.fieldAddr _ _ _=>true
 |.field _ _ _=>true
 |.build _ _=>true
 |.extract _ _=>true
 |.makeFunc _ _ _=>true
 |.makeInterface _ _=>true
 |.call _=>true
 |.load _ x=>match evO T x with
  |some (.ptr _ _)=>true
  |some (.vptr _)=>true
  |_=>false
 |.binOp op _ x _ _=>match op with
  |.add=>unsA (evO T x)
  |.sub=>unsA (evO T x)
  |.mul=>unsA (evO T x)
  |.eql=>true
  |.neq=>true
  |.lss=>true
  |.leq=>true
  |.gtr=>true
  |.geq=>true
  |_=>false
 |_=>false
def wie(te:TE)(T:Nat->Option AV):Op->Bool
 |.alloc _=>true
 |.box _ _=>true
 |.makeMap _ _=>true
 |.range _ _=>true
 |.store t x y=>match evO T x with
  |some (.ptr _ _)=>match evO T y,lk te t with
   |some u,some ti=>match wde u with
    |some new=>Nat.beq new.length ti.sz
    |none=>false
   |_,_=>false
  |_=>false
 |_=>false
def vcP(b:Bool)(v P:Prop):Prop:=match b with
 |true=>P
 |false=>v/\P
def wi2(l:List (Nat×AObj))(nx:Nat):Bool:=match l with
 |[]=>true
 |p::l=>Nat.ble p.1 nx && wi2 l nx
def won(l:List (Nat×AObj))(nx:Nat):Bool:=l.all λp=>Nat.blt p.1 (nx+16)
abbrev KT:=List (Nat×AV)->List (Nat×AObj)->Nat->Prop
def wnv(G:Env)(o:Oper)(T:List (Nat×AV))(O:List (Nat×AObj))(nx:Nat)(K:KT):Prop:=
 match o.op with
 |.call { callee:=.value fo,args,argTypes:=_ }=>match evO (lk T) fo with
  |some (.func f cap)=>match evL (lk T) args.toList with
   |some as=>match lk G.calls f with
    |some (.rel S)=>match wbj G.te O 64 (refsL (as++cap)) [] with
     |pass=>match ndB pass with
      |true=>match wc2 (idxN pass) (lk O) pass with
       |some cobjs=>wg7 cobjs (S (AV.rnL (idxN pass) (as++cap)) cobjs λU Os=>match ndB (Os.map Prod.fst),wel pass nx Os with
        |true,some O2=>wbv Os (K (putT o.dst (U.rn (sig pass nx)) T) (ov O2 (ov (deads pass) O)) (nx+16))
        |_,_=>False)
       |none=>False
      |false=>False
    |some (.det S)=>match wbj G.te O 64 (refsL (as++cap)) [] with
     |pass=>match ndB pass with
      |true=>match wc2 (idxN pass) (lk O) pass with
       |some cobjs=>match S (AV.rnL (idxN pass) (as++cap)) cobjs with
        |some (U,Os,vc)=>match ndB (Os.map Prod.fst),wel pass nx Os with
         |true,some O2=>wg7 cobjs (vc/\wbv Os (K (putT o.dst (U.rn (sig pass nx)) T) (ov O2 (ov (deads pass) O)) (nx+16)))
         |_,_=>False
        |none=>False
       |none=>False
      |false=>False
    |none=>False
   |none=>False
  |_=>False
 |_=>False
def nextT(te:TE)(t:TypeId):Option (AV×AV):=match lk te t with
 |some ti=>match ti.desc with
  |.map kt vt=>match lk te kt,lk te vt with
   |some tk,some tv=>match wd1 tk.zero,wd1 tv.zero with
    |some zk,some zv=>match slE te tv.desc with
     |some sz=>some (zk,.view sz 0 nof)
     |none=>some (zk,zv)
    |_,_=>none
   |_,_=>none
  |_=>none
 |none=>none
def wnt(o:Oper)(x:Operand)(T:List (Nat×AV))(O:List (Nat×AObj))(nx:Nat)(K:KT):Prop:=
 match evO (lk T) x with
 |some (.ptr r 0)=>match lk O r with
  |some (.miter mm n0 (ty::_::left))=>match lk O mm with
   |some (.amap es)=>n0=es.length/\(left=[]->K (putT o.dst (.tuple [.bool false]) T) O nx)/\
     ∀i:Nat,i∈left->K (putT o.dst (.tuple [.bool true,.any,.any]) T) (ov [(r,.miter mm n0 (ty::i::left.erase i))] O) nx
   |_=>False
  |_=>False
 |_=>False
def wnu(G:Env)(o:Oper)(x:Operand)(T:List (Nat×AV))(O:List (Nat×AObj))(nx:Nat)(K:KT):Prop:=
 match evO (lk T) x with
 |some (.ptr r 0)=>match lk O r with
  |some (.miter mm n0 (ty::c::_))=>match lk O mm,nextT G.te ty with
   |some (.amap es),some (zk,zv)=>(n0=es.length/\c<n0/\wb0 zk (es.getD c (.any,.any)).1=(es.getD c (.any,.any)).1/\wb0 zv (es.getD c (.any,.any)).2=(es.getD c (.any,.any)).2)/\
     K (putT o.dst (.tuple [wb0 zk (es.getD c (.any,.any)).1,wb0 zv (es.getD c (.any,.any)).2]) T) O (nx+16)
   |_,_=>False
  |_=>False
 |_=>False
def wp1(G:Env)(o:Oper)(T:List (Nat×AV))(O:List (Nat×AObj))(nx:Nat)(K:KT):Prop:=
 match wa1 G.N o.dst with
 |true=>match wbw G.te (lk T) (lk O) o.op with
  |some (u,v)=>vcP (wid (lk T) o.op) v (K (putT o.dst u T) O nx)
  |none=>match wbx G.te (lk T) (lk O) nx o.op with
   |some (u,l,v)=>match wi2 l nx with
    |true=>vcP (wie G.te (lk T) o.op) v (K (putT o.dst u T) (ov l O) (nx+1))
    |false=>False
   |none=>match wb2 G.te (lk T) (lk O) nx o.dst o.op with
    |some (b,x1,x2)=>match won x1.2.1 nx && won x2.2.1 nx with
     |true=>wab b (x1.2.2/\K (putT o.dst x1.1 T) (ov x1.2.1 O) (nx+16)) (x2.2.2/\K (putT o.dst x2.1 T) (ov x2.2.1 O) (nx+16))
     |false=>False
    |none=>match o.op with
     |.next x false=>wnt o x T O nx K
     |.entry x=>wnu G o x T O nx K
     |_=>wnv G o T O nx K
 |false=>False
def wdo(G:Env)(opl:List Oper)(K:St->Prop):List Oper->KT
 |[],T,O,nx=>K ⟨T,O,nx,[]⟩
 |o::rest,T,O,nx=>match o.guard with
  |none=>wp1 G o T O nx (wdo G opl K rest)
  |some _=>match gslot opl o with
   |some (d,want)=>match lk T d with
    |some (.bool b)=>match Nat.blt d G.N && wa1 G.N o.dst with
     |true=>wab b
      (match want with
       |true=>wp1 G o ((d,.bool true)::rm d T) O nx (wdo G opl K rest)
       |false=>wdo G opl K rest (putT o.dst (.tuple []) ((d,.bool true)::rm d T)) O nx)
      (match want with
       |false=>wp1 G o ((d,.bool false)::rm d T) O nx (wdo G opl K rest)
       |true=>wdo G opl K rest (putT o.dst (.tuple []) ((d,.bool false)::rm d T)) O nx)
     |false=>False
    |some (.tuple [])=>match wa1 G.N o.dst with
     |true=>wdo G opl K rest (putT o.dst (.tuple []) T) O nx
     |false=>False
    |_=>False
   |none=>False
structure DRow where
 o:Oper
 T:List (Nat×AV)
 O:List (Nat×AObj)
 p:PEnt
def frc(n:Nat)(k:Nat->Bool):Bool:=match n with
 |0=>k 0
 |n+1=>k (Nat.succ n)
theorem wf6(n:Nat)(k:Nat->Bool):frc n k=k n:=by cases n<;>rfl
def frcL:List Nat->(List Nat->Bool)->Bool
 |[],k=>k []
 |x::l,k=>frc x λx=>frcL l λl=>k (x::l)
theorem wtt:∀(l:List Nat) (k:List Nat->Bool),frcL l k=k l
 |[],_=>rfl
 |x::l,k=>by rw[frcL,wf6,wtt l]
def frcO:Option Nat->(Option Nat->Bool)->Bool
 |none,k=>k none
 |some x,k=>frc x λx=>k (some x)
theorem frcO_eq:∀(l:Option Nat) (k:Option Nat->Bool),frcO l k=k l
 |none,_=>rfl
 |some x,k=>by rw[frcO,wf6]
def bitN(m j:Nat):Bool:=Nat.beq (Nat.land (Nat.shiftRight m j) 1) 1
def wgc(e:Edge):Bool:=match e.ground with
 |.textOnly _=>false
 |.gcOnly _=>false
 |_=>true
def getM:List Nat->Nat->Nat
 |[],_=>0
 |m::_,0=>m
 |_::l,i+1=>getM l i
def afM(ms:List Nat):List Edge->Nat
 |[]=>0
 |e::l=>match wgc e with
  |true=>Nat.lor (Nat.lor (Nat.pow 2 e.on) (getM ms e.on)) (afM ms l)
  |false=>afM ms l
def wih:List Nat->Nat->(List Nat->Bool)->Bool
 |[],m,k=>k [m]
 |x::l,m,k=>wih l m λl=>k (x::l)
theorem wq4:∀(l:List Nat) (m:Nat) (k:List Nat->Bool),wih l m k=k (l++[m])
 |[],_,_=>rfl
 |x::l,m,k=>by rw[wih,wq4 l];rfl
def wi9:List Oper->List Nat->(List Nat->Bool)->Bool
 |[],ms,k=>k ms
 |o::l,ms,k=>frc (afM ms o.after.toList) λm=>wih ms m λms=>wi9 l ms k
def masks:List Oper->List Nat->List Nat
 |[],ms=>ms
 |o::l,ms=>masks l (ms++[afM ms o.after.toList])
theorem wsq:∀(l:List Oper) (ms:List Nat) (k:List Nat->Bool),wi9 l ms k=k (masks l ms)
 |[],_,_=>rfl
 |o::l,ms,k=>by rw[wi9,wf6,wq4,wsq l];rfl
structure MR where
 i:Nat
 m:Nat
 d:Option Nat
 l:List Nat
def mrK:Nat->List Oper->List Nat->List DRow->(List MR->Bool)->Bool
 |i,o::ol,m::ms,w::ws,k=>frcO o.dst λd=>frcL (w.p.l.map Prod.fst) λl=>frc (Nat.succ i) λi'=>mrK i' ol ms ws λrs=>k (⟨i,m,d,l⟩::rs)
 |_,[],[],[],k=>k []
 |_,_,_,_,_=>false
def unord(i mi:Nat)(r:MR):Bool:=match Nat.beq i r.i with
 |true=>false
 |false=>match bitN mi r.i with
  |true=>false
  |false=> !bitN r.m i
def consK:Option Nat->List Nat->(List Nat->Bool)->Bool
 |none,a,k=>k a
 |some d,a,k=>k (d::a)
def appK:List Nat->List Nat->(List Nat->Bool)->Bool
 |[],b,k=>k b
 |x::l,b,k=>appK l (x::b) k
def hidK(i mi:Nat):List MR->List Nat->List Nat->(List Nat->List Nat->Bool)->Bool
 |[],a,b,k=>k a b
 |r::rs,a,b,k=>match unord i mi r with
  |true=>consK r.d a λa=>appK r.l b λb=>hidK i mi rs a b k
  |false=>hidK i mi rs a b k
def we4(te:TE)(h:List Nat×List Nat)(k:Nat)(o:Oper)(T:List (Nat×AV))(O:List (Nat×AObj)):Bool:=
 match wbw te (hide h.1 (lk T)) (hide h.2 (lk O)) o.op with
 |some _=>true
 |none=>match wbw te (lk T) (lk O) o.op with
   |some _=>false
   |none=>match wbx te (hide h.1 (lk T)) (hide h.2 (lk O)) k o.op with
     |some _=>true
     |none=>match wbx te (lk T) (lk O) k o.op with
       |some _=>false
       |none=>match wb2 te (hide h.1 (lk T)) (hide h.2 (lk O)) k o.dst o.op with
        |some _=>true
        |none=>match wb2 te (lk T) (lk O) k o.dst o.op with
         |some _=>false
         |none=>match o.op with
         |.call { callee:=.value fo,args,argTypes:=_ }=>match evO (hide h.1 (lk T)) fo with
           |some (.func _ cap)=>match evL (hide h.1 (lk T)) args.toList with
             |some as=>(wbj te O 64 (refsL (as++cap)) []).all λx=> !(hasN h.2 x)
             |none=>false
           |_=>false
         |_=>false
def wc5(G:Env)(opl:List Oper)(h:List Nat×List Nat)(k:Nat)(r:DRow):Bool:=
 (match r.o.guard with
  |none=>r.p.want
  |some _=>match gslot opl r.o with
   |some (d,_)=> !(hasN h.1 d)
   |none=>false) &&
 (match r.p.want with
  |false=>true
  |true=>we4 G.te h k r.o r.T r.O)
def wg5(r:MR)(h1 h2:List Nat):Bool:=(match r.d with
 |some d=> !hasN h1 d
 |none=>true) && r.l.all λx=> !hasN h2 x
def wg9(nx:Nat)(r:MR)(x:Nat):Bool:=Nat.blt x nx || Nat.beq (Nat.div (Nat.sub x nx) 16) r.i || bitN r.m (Nat.div (Nat.sub x nx) 16)
def goK(G:Env)(opl:List Oper)(nx:Nat)(all:List MR):Nat->List MR->List DRow->Bool
 |_,[],[]=>true
 |k,r::rs,w::ws=>Nat.blt r.m (Nat.pow 2 r.i) && (r.l.all (wg9 nx r) && ((hidK r.i r.m all [] [] λh1 h2=>wg5 r h1 h2 && wc5 G opl (h1,h2) k w) && frc (Nat.add k 16) λk=>goK G opl nx all k rs ws))
 |_,_,_=>false
def wpD1(G:Env)(o:Oper)(T:List (Nat×AV))(O:List (Nat×AObj))(k:Nat)(K:AV->List (Nat×AObj)->Prop):Prop:=
 match wa1 G.N o.dst with
 |true=>match wbw G.te (lk T) (lk O) o.op with
   |some (u,v)=>vcP (wid (lk T) o.op) v (K u [])
   |none=>match wbx G.te (lk T) (lk O) k o.op with
     |some (u,l,v)=>vcP (wie G.te (lk T) o.op) v (K u l)
     |none=>match wb2 G.te (lk T) (lk O) k o.dst o.op with
      |some (b,x1,x2)=>wab b (x1.2.2/\K x1.1 x1.2.1) (x2.2.2/\K x2.1 x2.2.1)
      |none=>match o.op with
       |.call { callee:=.value fo,args,argTypes:=_ }=>match evO (lk T) fo with
         |some (.func f cap)=>match evL (lk T) args.toList with
           |some as=>match lk G.calls f with
             |some (.det S)=>match wbj G.te O 64 (refsL (as++cap)) [] with
               |pass=>match ndB pass with
                 |true=>match wc2 (idxN pass) (lk O) pass with
                   |some cobjs=>match S (AV.rnL (idxN pass) (as++cap)) cobjs with
                     |some (U,Os,vc)=>match ndB (Os.map Prod.fst),wel pass k Os with
                       |true,some O2=>wg7 cobjs (vc/\wbv Os (K (U.rn (sig pass k)) (O2++deads pass)))
                       |_,_=>False
                     |none=>False
                   |none=>False
                 |false=>False
             |_=>False
           |none=>False
         |_=>False
       |_=>False
 |false=>False
def wpz(G:Env)(opl:List Oper)(nx0:Nat)(rows:List DRow):Bool:=wi9 opl [] λms=>mrK 0 opl ms rows λrs=>frc nx0 λnx=>goK G opl nx rs nx rs rows
def wpD(G:Env)(opl:List Oper)(T0:List (Nat×AV))(O0:List (Nat×AObj))(nx0:Nat)(K:St->Prop):List Oper->List DRow->KT
 |[],rows,T,O,nx=>match wpz G opl nx0 rows with
  |true=>K ⟨T,O,nx,[]⟩
  |false=>False
 |o::rest,rows,T,O,nx=>
  match o.guard with
  |none=>wpD1 G o T O nx λu l=>wpD G opl T0 O0 nx0 K rest (rows++[⟨o,T,O,⟨true,u,l⟩⟩]) (putT o.dst u T) (l++O) (nx+16)
  |some _=>match gslot opl o with
   |some (d,want)=>match lk T d with
    |some (.bool b)=>match wa1 G.N o.dst with
     |true=>wab b
      (match want,(d,AV.bool true)::rm d T with
       |true,T=>wpD1 G o T O nx λu l=>wpD G opl T0 O0 nx0 K rest (rows++[⟨o,T,O,⟨true,u,l⟩⟩]) (putT o.dst u T) (l++O) (nx+16)
       |false,T=>wpD G opl T0 O0 nx0 K rest (rows++[⟨o,T,O,⟨false,.tuple [],[]⟩⟩]) (putT o.dst (.tuple []) T) O (nx+16))
      (match want,(d,AV.bool false)::rm d T with
       |false,T=>wpD1 G o T O nx λu l=>wpD G opl T0 O0 nx0 K rest (rows++[⟨o,T,O,⟨true,u,l⟩⟩]) (putT o.dst u T) (l++O) (nx+16)
       |true,T=>wpD G opl T0 O0 nx0 K rest (rows++[⟨o,T,O,⟨false,.tuple [],[]⟩⟩]) (putT o.dst (.tuple []) T) O (nx+16))
     |false=>False
    |some (.tuple [])=>match wa1 G.N o.dst with
     |true=>wpD G opl T0 O0 nx0 K rest (rows++[⟨o,T,O,⟨false,.tuple [],[]⟩⟩]) (putT o.dst (.tuple []) T) O (nx+16)
     |false=>False
    |_=>False
   |none=>False
def wei:Code->Nat
 |.region id _ _=>id
 |.seq a _=>wei a
 |.block _ a=>wei a
 |.loop a=>wei a
 |.cond _ a _=>wei a
 |.scope a=>wei a
 |_=>0
def iterP(B:(Exit->St->Prop)->St->Prop):Nat->(Exit->St->Prop)->St->Prop
 |0,_,_=>False
 |n+1,Q,s=>B (wdr (iterP B n Q) Q) s
def wsc(Q:Exit->St->Prop):Exit->St->Prop
 |.goto _,_=>False
 |e,s=>Q e s
def wpC(G:Env):Code->(Exit->St->Prop)->St->Prop
 |.skip,Q,s=>Q .normal s
 |.label _,Q,s=>Q .normal s
 |.exit id,Q,s=>Q (.exit id) s
 |.ret,Q,s=>Q .ret s
 |.seq x y,Q,s=>wpC G x (wdr (wpC G y Q) Q) s
 |.block id x,Q,s=>wpC G x (wkk id Q) s
 |.cond c x y,Q,s=>match evO (lk s.T) c with
  |some (.bool b)=>wab b (wpC G x Q s) (wpC G y Q s)
  |_=>False
 |.region id ops draw,Q,s=>match lk G.loops (id+1000) with
  |some L=>L s Q
  |none=>match draw with
   |false=>wdo G ops.toList (Q .normal) ops.toList s.T s.O s.nx
   |true=>wpD G ops.toList s.T s.O s.nx (Q .normal) ops.toList [] s.T s.O s.nx
 |.loop x,Q,s=>match lk G.loops (wei x) with
  |some L=>L s Q
  |none=>iterP (wpC G x) G.fuel Q s
 |.scope x,Q,s=>wpC G x (wsc Q) s
 |.goto l,Q,s=>Q (.goto l) s
 |_,_,_=>False
def numR(m:Nat):List Nat->Nat->List (Nat×Nat)
 |[],_=>[]
 |r::l,k=>match Nat.blt r m with
  |true=>numR m l k
  |false=>(r,k)::numR m l (k+1)
def canO(m:Nat)(ρ:List (Nat×Nat))(O:List (Nat×AObj)):List (Nat×Nat)->Option (List (Nat×AObj))
 |[]=>some []
 |(r,k)::l=>match canO m ρ O l with
  |some O'=>match lk O r with
   |some o=>match o.mut with
    |true=>match rnO? (ren m ρ) o with
     |some o'=>some ((k,o')::O')
     |none=>none
    |false=>some O'
   |none=>some O'
  |none=>none
def canT(ρ:Nat->Option Nat)(T:List (Nat×AV)):List Nat->Option (List (Nat×AV))
 |[]=>some []
 |d::l=>match lk T d,canT ρ T l with
  |some u,some T'=>some ((d,u.rn ρ)::T')
  |_,_=>none
def refsT(T:List (Nat×AV)):List Nat->List Nat
 |[]=>[]
 |d::l=>match lk T d with
  |some u=>wir u++refsT T l
  |none=>refsT T l
def canon(te:TE)(m:Nat)(F:List Nat)(s:St):Option St:=
 match numR m (wbj te s.O 64 (List.range m++refsT s.T F) []) m with
 |ρ=>match wfu m (m+ρ.length) ρ with
  |true=>match canT (ren m ρ) s.T F,canO m ρ s.O (((List.range m).map λr=>(r,r))++ρ) with
   |some T',some O'=>some ⟨T',O',m+ρ.length,[]⟩
   |_,_=>none
  |false=>none
def TEq(T T':List (Nat×AV)):Prop:=T=T'
def canonIs(te:TE)(m:Nat)(F:List Nat)(s1 s:St):Prop:=match canon te m F s1 with
 |some s2=>match wpm s2.O with
  |true=>match Nat.beq s2.nx s.nx with
   |true=>TEq s2.T s.T/\wad s2.O s.O
   |false=>False
  |false=>some s2=some s
 |none=>False
def tmpsR:List ResultVar->Bool
 |[]=>true
 |.tmp _::l=>tmpsR l
 |_=>false
def finP(te:TE)(rs:List ResultVar)(m:Nat)(R:AV->List (Nat×AObj)->Prop)(s:St):Prop:=
 match resA te (lk s.T) (lk s.O) rs with
 |some (us,vc)=>match numR m (wbj te s.O 64 (List.range m++refsL us) []) m with
  |ρ=>match wfu m (m+ρ.length) ρ && Nat.ble ρ.length 16 with
   |true=>match canO m ρ s.O (((List.range m).map λr=>(r,r))++ρ) with
    |some O'=>vcP (tmpsR rs) vc (wbv O' (rowR O' (R ((one us).rn (ren m ρ)))))
    |none=>False
   |false=>False
 |none=>False
def endP(te:TE)(rs:List ResultVar)(m:Nat)(R:AV->List (Nat×AObj)->Prop):Exit->St->Prop
 |.normal,s=>finP te rs m R s
 |.ret,s=>finP te rs m R s
 |_,_=>False
def wdz(fn:Func):Code:=match fn.body with
 |some c=>c
 |none=>.skip
def wpFn(te:TE)(calls:List (Nat×CSpec))(loops:List (Nat×waq))(fuel:Nat)(fn:Func)(args:List AV)(objs:List AObj)(R:AV->List (Nat×AObj)->Prop):Prop:=
 wpC ⟨te,calls,loops,objs.length,fn.ntmps,fuel⟩ (wdz fn) (endP te fn.results.toList objs.length R) ⟨enum 0 args,enum 0 objs,objs.length,[]⟩
def wa6(L:List (Nat×waq)):Code->List (Code×waq)
 |.seq x y=>wa6 L x++wa6 L y
 |.block _ x=>wa6 L x
 |.scope x=>wa6 L x
 |.cond _ x y=>wa6 L x++wa6 L y
 |.loop x=>match lk L (wei x) with
  |some l=>[(.loop x,l)]
  |none=>wa6 L x
 |.region id ops d=>match lk L (id+1000) with
  |some l=>[(.region id ops d,l)]
  |none=>[]
 |_=>[]
def wef(i:Nat):Code->Option Code
 |.seq x y=>match wef i x with
  |some c=>some c
  |none=>wef i y
 |.block _ x=>wef i x
 |.scope x=>wef i x
 |.cond _ x y=>match wef i x with
  |some c=>some c
  |none=>wef i y
 |.loop x=>match Nat.beq (wei x) i with
  |true=>some x
  |false=>wef i x
 |_=>none
def wd9(i:Nat):Code->Option Code
 |.seq x y=>match wd9 i x with
  |some c=>some c
  |none=>wd9 i y
 |.block _ x=>wd9 i x
 |.scope x=>wd9 i x
 |.cond _ x y=>match wd9 i x with
  |some c=>some c
  |none=>wd9 i y
 |.loop x=>wd9 i x
 |.region id ops d=>match Nat.beq id i with
  |true=>some (.region id ops d)
  |false=>none
 |_=>none
def wax(fn:Func)(i:Nat):Code:=match wef i (wdz fn) with
 |some c=>c
 |none=>.skip
def waj(fn:Func)(i:Nat):Code:=.loop (wax fn i)
def regC(fn:Func)(i:Nat):Code:=match wd9 i (wdz fn) with
 |some c=>c
 |none=>.skip
def wac(C:Ctx)(f:FuncId)(S:Spec):Prop:=∀args objs U Os vc,S args objs=some (U,Os,vc)->vc->ADet C f args objs U Os
def wbi(C:Ctx)(f:FuncId)(S:wdm):Prop:=∀args objs R,S args objs R->war C f args objs R
def wez(C:Ctx)(f:FuncId):CSpec->Prop
 |.det S=>wac C f S
 |.rel S=>wbi C f S
structure EnvOK (C:Ctx) (G:Env):Prop where
 te:TE.ok C.P G.te
 one:∀t ti,lk G.te t=some ti->waz ti.desc=false->ti.sz=1
 calls:∀f S,lk G.calls f=some S->wez C f S
theorem wrl{o:AObj}{P:Prop}(h:wb1 o P):wb1 o True/\P:=by
 cases o<;>first | exact⟨⟨h.1,trivial⟩,h.2⟩ | exact⟨trivial,h⟩
theorem wb3:∀ {l:List (Nat×AObj)} {P:Prop},wbv l P->(∀p∈l,wb1 p.2 True)/\P
 |[],_,h=>⟨λp hp=>by simp at hp,h⟩
 |o::l,P,h=>by
  obtain⟨h1,h2⟩:=wrl h;obtain⟨h3,h4⟩:=wb3 h2;refine⟨λp hp=>?_,h4⟩
  rcases List.mem_cons.1 hp with rfl | hp
  ·exact h1
  ·exact h3 p hp
theorem wip:∀ {l:List AObj} {P:Prop},wg7 l P->(∀o∈l,wb1 o True)/\P
 |[],_,h=>⟨λp hp=>by simp at hp,h⟩
 |o::l,P,h=>by
  obtain⟨h1,h2⟩:=wrl h;obtain⟨h3,h4⟩:=wip h2;refine⟨λp hp=>?_,h4⟩
  rcases List.mem_cons.1 hp with rfl | hp
  ·exact h1
  ·exact h3 p hp
theorem wn9{σ:Nat->Option Nat}{o o':AObj}(h:rnO? σ o=some o')(hv:wb1 o' True):OLe σ o o':=by
 cases o with
 |miter m n l=>
  simp only[rnO?] at h;split at h
  ·rename_i m' hm;simp only[sI7] at h;subst h;exact⟨hm,rfl,rfl⟩
  ·cases h
 |row t sz n f fr=>
  simp only[rnO?,sI7] at h;subst h;exact⟨rfl,rfl,rfl,rfl,λi hi=>rnL_nref σ _ (hv.1 i hi)⟩
 |_=>
  simp only[rnO?,sI7] at h;subst h;simp[OLe]
theorem wwx{σ:Nat->Option Nat}{o o':AObj}(h:rnO? σ o=some o')(hv:wb1 o True):wb1 o' True:=by
 cases o with
 |miter m n l=>
  simp only[rnO?] at h;split at h
  ·simp only[sI7] at h;subst h;trivial
  ·cases h
 |row t sz n f fr=>
  simp only[rnO?,sI7] at h;subst h;exact hv
 |_=>
  simp only[rnO?,sI7] at h;subst h;trivial
theorem wiw{ρ:Nat->Option Nat}{O:Nat->Option AObj}:∀ {l:List Nat} {l':List AObj},wc2 ρ O l=some l'->(∀o∈l',wb1 o True)->wb7 ρ O l l'
 |[],l',h,_=>by simp only[wc2,sI7] at h;subst h;trivial
 |r::l,l',h,hv=>by
  simp only[wc2] at h;split at h
  ·rename_i o ho;split at h
   ·rename_i hm;split at h
    ·rename_i o' ho';split at h
     ·rename_i l2 hl;simp only[sI7] at h;subst h;exact⟨⟨o,ho,hm,wn9 ho' (hv o' (by simp))⟩,wiw hl λo ho=>hv o (List.mem_cons_of_mem _ ho)⟩
     ·cases h
    ·cases h
   ·cases h
  ·cases h
theorem wqb{pass:List Nat}{k:Nat}:∀ {Os O2 Oall:List (Nat×AObj)},wel pass k Os=some O2->(∀p∈Os,wb1 p.2 True)->(∀p∈Os,lk Oall p.1=some p.2)->wbk (sig pass k) Oall O2
 |[],O2,Oall,h,_,_=>by simp only[wel,sI7] at h;subst h;trivial
 |p::l,O2,Oall,h,hv,hl=>by
  simp only[wel] at h;split at h
  ·rename_i o l' ho hl';simp only[sI7] at h;subst h;exact⟨⟨p.1,p.2,wn7 _ _ _,hl p (by simp),wn9 ho (wwx ho (hv p (by simp)))⟩,wqb hl' (λq hq=>hv q (List.mem_cons_of_mem _ hq)) λq hq=>hl q (List.mem_cons_of_mem _ hq)⟩
  ·cases h
theorem lk_all{l:List (Nat×AObj)}(h:ndB (l.map Prod.fst)=true):∀p∈l,lk l p.1=some p.2:=λ_ hp=>woy (wed h) hp
theorem wg0{b:Bool}{v P:Prop}(hb:b=true->v)(h:vcP b v P):v/\P:=by
 cases b with
 |true=>exact⟨hb rfl,h⟩
 |false=>exact h
theorem wsf:∀ {l:List (Nat×AObj)} {nx:Nat},wi2 l nx=true->∀p∈l,p.1<=nx
 |[],_,_,p,hp=>by simp at hp
 |x::l,nx,h,p,hp=>by
  simp only[wi2,bA7] at h
  rcases List.mem_cons.1 hp with rfl | hp
  ·exact Nat.le_of_ble_eq_true h.1
  ·exact wsf h.2 p hp
theorem w3h{d:TypeDesc}{op:BinOp}{a b u:AV}{v:Prop}(h:binA d op a b=some (u,v))(ho:op= .eql∨op= .neq∨op= .lss∨op= .leq∨op= .gtr∨op= .geq):v:=by
 unfold binA at h
 rcases ho with rfl | rfl | rfl | rfl | rfl | rfl<;>(repeat' (split at h))<;>simp_all
theorem wxq{te:TE}{op:BinOp}{t:TypeId}{y:Operand}{a b u:AV}{v:Prop}(h:opA te op t y a b=some (u,v))(ho:op= .eql∨op= .neq∨op= .lss∨op= .leq∨op= .gtr∨op= .geq):v:=by
 unfold opA at h;split at h
 ·split at h
  ·split at h
   ·split at h<;>simp_all
   ·cases h
  ·split at h
   ·exact w3h h ho
   ·cases h
 ·cases h
theorem w3s{k:IntKind}{n m:Int}{u:AV}{v:Prop}(h:wfj k m=some (u,v))(hu:unsA (some (.int k n))=true):v:=by
 cases k<;>simp_all [unsA,wfj]
theorem w3j{d:TypeDesc}{op:BinOp}{k:IntKind}{n:Int}{b u:AV}{v:Prop}(h:binA d op (.int k n) b=some (u,v))(ho:op= .add∨op= .sub∨op= .mul)(hu:unsA (some (.int k n))=true):v:=by
 cases b with
 |int k' m=>
  rcases ho with rfl | rfl | rfl<;>simp only[binA] at h<;>split at h<;>first | exact w3s h hu | cases h
 |_=>rcases ho with rfl | rfl | rfl<;>simp[binA] at h
theorem w3q{te:TE}{op:BinOp}{t:TypeId}{y:Operand}{a b u:AV}{v:Prop}(h:opA te op t y a b=some (u,v))(ho:op= .add∨op= .sub∨op= .mul)(hu:unsA (some a)=true):v:=by
 cases a with
 |int k n=>
  unfold opA at h;split at h
  ·split at h
   ·rename_i h1 h2;cases h2
   ·split at h
    ·exact w3j h ho hu
    ·cases h
  ·cases h
 |_=>cases hu
theorem wqs{te:TE}{T:Nat->Option AV}{O:Nat->Option AObj}{op:Op}{u:AV}{v:Prop}(h:wbw te T O op=some (u,v))(ht:wid T op=true):v:=by
 unfold wid at ht;split at ht
 all_goals (try (cases ht;done))
 all_goals (try (simp only[wbw] at h;(repeat' (split at h))<;>simp_all;done))
 · --load
  rename_i t x;simp only[wbw] at h;split at h
  ·rename_i w hw;unfold wcy at h;rw[hw] at ht;split at h
   ·split at h
    ·rename_i g vc hg;have:vc:=by
      unfold wea at hg;split at hg
      ·split at hg<;>simp_all
      ·simp at ht
      ·simp_all
      ·cases hg
     repeat' (split at h)
     all_goals (first | (cases h;done) | (simp only[sI7,pI7] at h;obtain⟨_,rfl⟩:=h;exact this))
    ·cases h
   ·cases h
  ·cases h
 ·rename_i op t x y tt;simp only[wbw] at h;split at h
  ·rename_i a b ha hb;rw[ha] at ht
   cases op
   case add | sub | mul=>exact w3q h (by simp) ht
   case eql | neq | lss | leq | gtr | geq=>exact wxq h (by simp)
   all_goals (cases ht)
  ·cases h
theorem wqt{te:TE}{T:Nat->Option AV}{O:Nat->Option AObj}{fresh:Nat}{op:Op}{u:AV}{l:List (Nat×AObj)}{v:Prop}(h:wbx te T O fresh op=some (u,l,v))(ht:wie te T op=true):v:=by
 unfold wie at ht;split at ht
 all_goals (try (cases ht;done))
 all_goals (try (simp only[wbx] at h;(repeat' (split at h))<;>simp_all;done))
section
variable {C:Ctx} {G:Env} (hG:EnvOK C G) {m:Nat} {ops:Array Oper} {rest:List Oper} {Q:Exit->St->Prop} {o:Oper} {T:List (Nat×AV)} {O:List (Nat×AObj)} {nx:Nat} {dec:List Nat}
include hG
theorem wvl{K:KT}(hg:o.guard=none)(hd:wa1 G.N o.dst=true)(h:wnv G o T O nx K)(hK:∀T O nx,K T O nx->AOps C m G.N ops rest Q ⟨T,O,nx,[]⟩):AOps C m G.N ops (o::rest) Q ⟨T,O,nx,[]⟩:=by
 unfold wnv at h;split at h
 ·rename_i fo args at_ hop;split at h
  ·rename_i f cap hf;split at h
   ·rename_i as ha;have hpass:∀ {l:List Nat} {l':List AObj},wb7 (idxN (wbj G.te O 64 (refsL (as++cap)) [])) (lk O) l l'->wdn (idxN (wbj G.te O 64 (refsL (as++cap)) [])) O l l':=by
     intro l
     induction l with
     |nil=>intro l' h;cases l' with
      |nil=>trivial
      |cons _ _=>exact h.elim
     |cons x l ih=>intro l' h;cases l' with
      |nil=>exact h.elim
      |cons y l'=>exact⟨h.1,ih h.2⟩
    have fin:∀(O' O2:List (Nat×AObj)) (U:AV),ndB (O'.map Prod.fst)=true->wel (wbj G.te O 64 (refsL (as++cap)) []) nx O'=some O2->(∀p∈O',wb1 p.2 True)->
      K (putT o.dst (U.rn (sig (wbj G.te O 64 (refsL (as++cap)) []) nx)) T) (ov O2 (ov (deads (wbj G.te O 64 (refsL (as++cap)) [])) O)) (nx+16)->
      ∃u2 O2,U.rn (sig (wbj G.te O 64 (refsL (as++cap)) []) nx)=u2/\wbk (sig (wbj G.te O 64 (refsL (as++cap)) []) nx) O' O2/\AOps C m G.N ops rest Q ⟨putT o.dst u2 T,O2++(deads (wbj G.te O 64 (refsL (as++cap)) [])++O),nx+16,[]⟩:=by
     intro O' O2 U hnk hb hv hk;refine⟨_,O2,rfl,wqb hb hv (lk_all hnk),?_⟩;refine AOps.congrO (O':=ov O2 (ov (deads (wbj G.te O 64 (refsL (as++cap)) [])) O)) ?_ (hK _ _ _ hk);rw[wdw];funext r;rw[wcm,wcm,wdw]
    split at h
    ·rename_i S hS;dsimp only at h;split at h
     ·rename_i hnd;split at h
      ·rename_i cobjs hobj;obtain⟨hv,h⟩:=wip h;have hc:=(hG.calls f _ hS:wbi C f S) _ _ _ h;refine AOps.call (s:=⟨T,O,nx,[]⟩) _ hop hg hd hf ha (wed hnd) (hpass (wiw hobj hv)) hc ?_;intro u O' hR;split at hR
       ·rename_i O2 hnk hb;obtain⟨hv',hk⟩:=wb3 hR;exact fin O' O2 u hnk hb hv' hk
       ·exact hR.elim
      ·exact h.elim
     ·exact h.elim
    ·rename_i S hS;dsimp only at h;split at h
     ·rename_i hnd;split at h
      ·rename_i cobjs hobj;split at h
       ·rename_i U Os vc hUS;split at h
        ·rename_i O2 hnk hb;obtain⟨hv,hvc,h⟩:=wip h;obtain⟨hv',hk⟩:=wb3 h;refine AOps.call (s:=⟨T,O,nx,[]⟩) _ hop hg hd hf ha (wed hnd) (hpass (wiw hobj hv)) ((hG.calls f _ hS:wac C f S) _ _ _ _ _ hUS hvc) ?_;rintro u O' ⟨rfl,rfl⟩;exact fin O' O2 u hnk hb hv' hk
        ·exact h.elim
       ·exact h.elim
      ·exact h.elim
     ·exact h.elim
    ·exact h.elim
   ·exact h.elim
  ·exact h.elim
 ·exact h.elim
theorem wvj{K:KT}{x:Operand}(hg:o.guard=none)(hd:wa1 G.N o.dst=true)(hop:o.op= .next x false)(h:wnt o x T O nx K)(hK:∀T O nx,K T O nx->AOps C m G.N ops rest Q ⟨T,O,nx,[]⟩):AOps C m G.N ops (o::rest) Q ⟨T,O,nx,[]⟩:=by
 have _:=hG;unfold wnt at h;split at h
 ·rename_i r hx;split at h
  ·rename_i mm n0 ty c0 left hO;split at h
   ·rename_i es hM;obtain⟨hn,h0,h1⟩:=h;refine AOps.nextMap hg hop hd hx hO hM hn (λhl=>hK _ _ _ (h0 hl)) (λi hi=>?_);refine AOps.congrO (O':=ov [(r,.miter mm n0 (ty::i::left.erase i))] O) ?_ (hK _ _ _ (h1 i hi));rw[wdw];rfl
   ·exact h.elim
  ·exact h.elim
 ·exact h.elim
theorem wvk{K:KT}{x:Operand}(hg:o.guard=none)(hd:wa1 G.N o.dst=true)(hop:o.op= .entry x)(h:wnu G o x T O nx K)(hK:∀T O nx,K T O nx->AOps C m G.N ops rest Q ⟨T,O,nx,[]⟩):AOps C m G.N ops (o::rest) Q ⟨T,O,nx,[]⟩:=by
 have _:=hG;unfold wnu at h;split at h
 ·rename_i r hx;split at h
  ·rename_i mm n0 ty c0 left hO;split at h
   ·rename_i es zk zv hM _;obtain⟨⟨hn,hc,e1,e2⟩,hk⟩:=h;rw[e1,e2] at hk;have hg2:es[c0]?=some ((es.getD c0 (.any,.any)).1,(es.getD c0 (.any,.any)).2):=by
     have:c0<es.length:=by omega
     simp[List.getD,this]
    exact AOps.step hg (wal.entry hop hd hx hO hM hn hg2) rfl rfl rfl rfl (hK _ _ _ hk)
   ·exact h.elim
  ·exact h.elim
 ·exact h.elim
theorem wnw{K:KT}(hg:o.guard=none)(h:wp1 G o T O nx K)(hK:∀T O nx,K T O nx->AOps C m G.N ops rest Q ⟨T,O,nx,[]⟩):AOps C m G.N ops (o::rest) Q ⟨T,O,nx,[]⟩:=by
 unfold wp1 at h;split at h
 ·rename_i hd;split at h
  ·rename_i u v hu;obtain⟨h1,h2⟩:=wg0 (wqs hu) h;exact AOps.pure (s:=⟨T,O,nx,[]⟩) hG.te hG.one hg hu hd h1 (hK _ _ _ h2)
  ·split at h
   ·rename_i u l v hu;split at h
    ·rename_i hn;obtain⟨h1,h2⟩:=wg0 (wqt hu) h;refine AOps.eff (s:=⟨T,O,nx,[]⟩) hG.te hg hu hd (wsf hn) h1 ?_;refine AOps.congrO (O':=ov l O) ?_ (hK _ _ _ h2);rw[wdw]
    ·exact h.elim
   ·split at h
    ·rename_i b x1 x2 hx;split at h
     ·rename_i hn;simp only[bA7] at hn;obtain⟨k1,k2⟩:=wt4 hG.te hG.one (N:=G.N) hx hd;have fin:∀x:XOut,won x.2.1 nx=true->wal C G.N o (lk T) (lk O) nx x.1 x.2.1->K (putT o.dst x.1 T) (ov x.2.1 O) (nx+16)->AOps C m G.N ops (o::rest) Q ⟨T,O,nx,[]⟩:=by
       intro x hnx hs hk;refine AOps.step hg hs hnx rfl rfl rfl ?_;refine AOps.congrO (O':=ov x.2.1 O) ?_ (hK _ _ _ hk);rw[wdw]
      obtain⟨h1,h2⟩:=wbt h
      cases hb:b with
      |true=>exact fin x1 hn.1 (k1 hb (h1 hb).1) (h1 hb).2
      |false=>exact fin x2 hn.2 (k2 hb (h2 hb).1) (h2 hb).2
     ·exact h.elim
    ·split at h
     ·rename_i x hop;exact wvj hG hg hd hop h hK
     ·rename_i x hop;exact wvk hG hg hd hop h hK
     ·exact wvl hG hg hd h hK
 ·exact h.elim
theorem wqn{opl:List Oper}{K:KT}(h:wp1 G o T O nx K){d:Nat}{want:Bool}(hgs:gslot opl o=some (d,want))(hT:lk T d=some (.bool want))(hK:∀T O nx,K T O nx->AOps C m G.N opl.toArray rest Q ⟨T,O,nx,[]⟩):
  AOps C m G.N opl.toArray (o::rest) Q ⟨T,O,nx,[]⟩:=
 AOps.yes (s:=⟨T,O,nx,[]⟩) hgs hT (wnw hG (o:=unguard o) rfl h hK)
omit hG in
theorem AOps.noU{opl:List Oper}{d:Nat}{want:Bool}(hg:gslot opl o=some (d,want))(hT:(∃b,lk T d=some (.bool b)/\(b==want)=false)∨lk T d=some (.tuple []))(hd:wa1 G.N o.dst=true)
  (k:AOps C m G.N opl.toArray rest Q ⟨putT o.dst (.tuple []) T,O,nx,[]⟩):AOps C m G.N opl.toArray (o::rest) Q ⟨T,O,nx,[]⟩:=by
 intro E hE bs a w hr;have hw:Region.wanted o (yielded opl.toArray a.tmps)=false:=by
  rcases hT with⟨b,hT,hb⟩ | hT
  ·rw[wqq hr.1.1 hg hT,hb]
  ·exact wqp hr.1.1 hg hT
 unfold wpList;rw[hw];exact k E hE bs _ _ ⟨⟨hr.1.1.putT hd wvc,hr.1.2⟩,hr.2⟩
theorem wqk{opl:List Oper}{K:St->Prop}(hK:∀s,K s->Q .normal s):∀(l:List Oper) (T:List (Nat×AV)) (O:List (Nat×AObj)) (nx:Nat),wdo G opl K l T O nx->AOps C m G.N opl.toArray l Q ⟨T,O,nx,[]⟩
 |[],T,O,nx,h=>AOps.nil (hK _ h)
 |o::rest,T,O,nx,h=>by
  have ih:=wqk (opl:=opl) hK rest;simp only[wdo] at h;split at h
  ·rename_i hg;exact wnw hG hg h ih
  ·split at h
   ·rename_i d want hgs;split at h
    ·rename_i b hT;split at h
     ·rename_i hb;simp only[bA7] at hb;have e:∀b',AOps C m G.N opl.toArray (o::rest) Q ⟨(d,.bool b')::rm d T,O,nx,[]⟩->AOps C m G.N opl.toArray (o::rest) Q ⟨(d,.bool b')::rm d T,O,nx,[d]⟩:=λ_ h=>h;have hl:∀b',lk ((d,AV.bool b')::rm d T) d=some (.bool b'):=λb'=>by rw[wat];simp
      refine AOps.split (s:=⟨T,O,nx,[]⟩) d hb.1 hT (λhh=>e _ ?_) (λhh=>e _ ?_)
      ·have h:=(wbt h).1 hh;split at h
       ·exact wqn hG h hgs (hl _) ih
       ·exact AOps.noU hgs (.inl ⟨_,hl _,rfl⟩) hb.2 (ih _ _ _ h)
      ·have h:=(wbt h).2 hh;split at h
       ·exact wqn hG h hgs (hl _) ih
       ·exact AOps.noU hgs (.inl ⟨_,hl _,rfl⟩) hb.2 (ih _ _ _ h)
     ·exact h.elim
    ·rename_i hT;split at h
     ·rename_i hd;exact AOps.noU hgs (.inr hT) hd (ih _ _ _ h)
     ·exact h.elim
    ·exact h.elim
   ·exact h.elim
end
end Go.Eng
