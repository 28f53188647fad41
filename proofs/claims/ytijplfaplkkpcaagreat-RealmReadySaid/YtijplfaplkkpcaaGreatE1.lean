/- The evaluator of the model's code over an abstract heap, and what relates that heap to a world. No conditions beside those in its theorems. -/
import GoSem.Step
set_option linter.unusedVariables false
set_option linter.unusedSimpArgs false
set_option linter.unusedSectionVars false
set_option linter.constructorNameAsVariable false
set_option maxRecDepth 100000
noncomputable section
section
universe u
theorem Ah(a b:Bool):((a&&b)=true)=(a=true/\b=true):=Bool.and_eq_true a b
theorem Bf{α:Type u}{p:α->Bool}{l:List α}:l.all p=true↔∀x,x∈l->p x=true:=List.all_eq_true
theorem BL{α:Type u}{b:α}{l:List α}{a:α}:a∈b::l↔a=b\/a∈l:=List.mem_cons
theorem Ht{α:Type u}{i:Nat}{b:α}{xs:Array α}:xs[i]? =some b↔∃h,xs[i]=b:=Array.getElem?_eq_some_iff
theorem Iw{α:Type u}{l:List α}{i:Nat}{a:α}:l.getD i a=l[i]?.getD a:=List.getD_eq_getElem?_getD
theorem Gq{α:Type u}(y:α){a:α}{l:List α}(h:a∈l):a∈y::l:=List.mem_cons_of_mem y h
theorem GU{α:Type u}{a:α}{l:List α}:a∈a::l:=List.mem_cons_self
theorem IM{n m k:Nat}(h:n<m)(g:m<=k):n<k:=Nat.lt_of_lt_of_le h g
theorem Oq{α:Type u}{xs:List α}{i:Nat}{b:α}:xs[i]? =some b↔∃h,xs[i]=b:=List.getElem?_eq_some_iff
theorem Oj{α:Type u}{l:List α}{i:Nat}{a:α}(h:l[i]? =some a):a∈l:=List.mem_of_getElem? h
namespace Eng
open Go
inductive T(α:Type) where
 |nil
 |node (v:Option α) (l r:T α)
namespace T
variable {α:Type}
def get(t:T α):Nat->Option α:=
 @T.rec α (fun _=>Nat->Option α) (fun _=>none)
  (fun v _ _ gl gr n=>@Nat.rec (fun _=>Option α) v (fun m _=>@Bool.rec (fun _=>Option α) (gr (Nat.div m 2)) (gl (Nat.div m 2)) (Nat.beq (Nat.mod m 2) 0)) n) t
def YW(f:Nat):T α->Nat->α->T α:=
 @Nat.rec (fun _=>T α->Nat->α->T α) (fun _ _ _=>.nil) (fun _ r t n x=>
  @T.rec α (fun _=>T α)
   (@Nat.rec (fun _=>T α) (T.node (some x) .nil .nil) (fun m _=>@Bool.rec (fun _=>T α) (.node none .nil (r .nil (Nat.div m 2) x)) (.node none (r .nil (Nat.div m 2) x) .nil) (Nat.beq (Nat.mod m 2) 0)) n)
   (fun v a b _ _=>@Nat.rec (fun _=>T α) (T.node (some x) a b) (fun m _=>@Bool.rec (fun _=>T α) (.node v a (r b (Nat.div m 2) x)) (.node v (r a (Nat.div m 2) x) b) (Nat.beq (Nat.mod m 2) 0)) n) t) f
def set(t:T α)(n:Nat)(x:α):T α:=YW 40 t n x
def slice(t:T α)(off n:Nat):Option (List α):=
 @Nat.rec (fun _=>Nat->Option (List α)) (fun _=>some []) (fun _ r off=>
  @Option.rec α (fun _=>Option (List α)) none (fun x=>@Option.rec (List α) (fun _=>Option (List α)) none (fun xs=>some (x::xs)) (r (Nat.succ off))) (t.get off)) n off
def over(t:T α)(off:Nat)(l:List α):T α:=
 @List.rec α (fun _=>T α->Nat->T α) (fun t _=>t) (fun x _ r t i=>r (t.set i x) (Nat.succ i)) l t off
def ofList(l:List α):T α:=over .nil 0 l
end T
section
variable {α:Type}
def nth(l:List α):Nat->Option α:=@List.rec α (fun _=>Nat->Option α) (fun _=>none) (fun x _ r i=>@Nat.rec (fun _=>Option α) (some x) (fun j _=>r j) i) l
def len(l:List α):Nat:=@List.rec α (fun _=>Nat) 0 (fun _ _ r=>Nat.succ r) l
def app(a b:List α):List α:=@List.rec α (fun _=>List α) b (fun x _ r=>x::r) a
def PE(l:List α):Nat->List α:=@List.rec α (fun _=>Nat->List α) (fun _=>[]) (fun x _ r n=>@Nat.rec (fun _=>List α) [] (fun m _=>x::r m) n) l
def Ri(n:Nat):List α->List α:=@Nat.rec (fun _=>List α->List α) (fun l=>l) (fun _ r l=>@List.rec α (fun _=>List α) [] (fun _ t _=>r t) l) n
def Pp(a:Option α)(l:Option (List α)):Option (List α):=
 @Option.rec α (fun _=>Option (List α)) none (fun a=>@Option.rec (List α) (fun _=>Option (List α)) none (fun l=>some (a::l)) l) a
def Y7(vs z:List α):List α:=@List.rec α (fun _=>List α->List α) (fun z=>z) (fun v _ r z=>@List.rec α (fun _=>List α) [] (fun _ t _=>v::r t) z) vs z
def JF(vs z:List α)(off:Nat):List α:=
 @Nat.rec (fun _=>List α->List α) (fun z=>Y7 vs z) (fun _ r z=>@List.rec α (fun _=>List α) [] (fun x t _=>x::r t) z) off z
def C0(z:List α)(n:Nat):List α:=@Nat.rec (fun _=>List α) [] (fun _ r=>app z r) n
end
def BX(x y:Int):Bool:=
 @Int.rec (fun _=>Bool) (fun a=>@Int.rec (fun _=>Bool) (fun b=>Nat.beq a b) (fun _=>false) y) (fun a=>@Int.rec (fun _=>Bool) (fun _=>false) (fun b=>Nat.beq a b) y) x
def Ev(x y:Int):Bool:=
 @Int.rec (fun _=>Bool) (fun a=>@Int.rec (fun _=>Bool) (fun b=>Nat.ble (Nat.succ a) b) (fun _=>false) y) (fun a=>@Int.rec (fun _=>Bool) (fun _=>true) (fun b=>Nat.ble (Nat.succ b) a) y) x
def Fp:IntKind->Nat
 |.i8|.u8=>256 |.i16|.u16=>65536 |.i32|.u32=>4294967296 |.i64|.u64=>18446744073709551616
def half:IntKind->Nat
 |.i8=>128 |.u8=>256 |.i16=>32768 |.u16=>65536 |.i32=>2147483648 |.u32=>4294967296 |.i64=>9223372036854775808 |.u64=>18446744073709551616
def Fe(k:IntKind)(r:Nat):Int:=@Bool.rec (fun _=>Int) (.ofNat r) (.negSucc (Nat.pred (Nat.sub (Fp k) r))) (Nat.ble (half k) r)
def Ii(k:IntKind)(n:Int):Nat:=@Int.rec (fun _=>Nat) (fun m=>Nat.mod m (Fp k)) (fun m=>Nat.sub (Nat.pred (Fp k)) (Nat.mod m (Fp k))) n
def KS(k:IntKind)(n:Int):Int:=
 @Int.rec (fun _=>Int) (fun m=>@Bool.rec (fun _=>Int) (Fe k (Nat.mod m (Fp k))) (.ofNat m) (Nat.ble (Nat.succ m) (half k))) (fun m=>Fe k (Nat.sub (Nat.pred (Fp k)) (Nat.mod m (Fp k)))) n
def Aau(x y:Int):Int:=@Int.rec (fun _=>Int) (fun a=>@Int.rec (fun _=>Int) (fun b=>.ofNat (Nat.add a b)) (fun _=>Int.add x y) y) (fun _=>Int.add x y) x
def Ad7(x y:Int):Int:=@Int.rec (fun _=>Int) (fun a=>@Int.rec (fun _=>Int) (fun b=>@Bool.rec (fun _=>Int) (.negSucc (Nat.pred (Nat.sub b a))) (.ofNat (Nat.sub a b)) (Nat.ble b a)) (fun _=>Int.sub x y) y) (fun _=>Int.sub x y) x
def AqQ(x y:Int):Int:=@Int.rec (fun _=>Int) (fun a=>@Int.rec (fun _=>Int) (fun b=>.ofNat (Nat.mul a b)) (fun _=>Int.mul x y) y) (fun _=>Int.mul x y) x
def bitsOf:IntKind->Nat
 |.i8|.u8=>8 |.i16|.u16=>16 |.i32|.u32=>32 |.i64|.u64=>64
def Ax:IntKind->Nat
 |.i8=>0 |.i16=>1 |.i32=>2 |.i64=>3 |.u8=>4 |.u16=>5 |.u32=>6 |.u64=>7
def E7(op:BinOp):IntKind->Int->Int->Option Int:=
 match op with
 |.add=>fun k x y=>some (KS k (Aau x y))
 |.sub=>fun k x y=>some (KS k (Ad7 x y))
 |.mul=>fun k x y=>some (KS k (AqQ x y))
 |.quo=>fun k x y=>match x,y with
  |.ofNat a,.ofNat b=>bif Nat.beq b 0 then none else some (KS k (.ofNat (Nat.div a b)))
  |_,_=>none
 |.rem=>fun _ x y=>match x,y with
  |.ofNat a,.ofNat b=>bif Nat.beq b 0 then none else some (.ofNat (Nat.mod a b))
  |_,_=>none
 |.and=>fun k x y=>some (Fe k (Nat.land (Ii k x) (Ii k y)))
 |.or=>fun k x y=>some (Fe k (Nat.lor (Ii k x) (Ii k y)))
 |.xor=>fun k x y=>some (Fe k (Nat.xor (Ii k x) (Ii k y)))
 |.andNot=>fun k x y=>some (Fe k (Nat.land (Ii k x) (Nat.sub (Nat.pred (Fp k)) (Ii k y))))
 |.shl=>fun k x y=>match x,y with
  |.ofNat a,.ofNat b=>bif Nat.ble b (bitsOf k) then some (KS k (.ofNat (Nat.mul a (Nat.pow 2 b)))) else none
  |_,_=>none
 |.shr=>fun k x y=>match x,y with
  |.ofNat a,.ofNat b=>bif Nat.ble b (bitsOf k) then some (.ofNat (Nat.div a (Nat.pow 2 b))) else none
  |_,_=>none
 |_=>fun _ _ _=>none
def C3(b:Bool):Bool:=@Bool.rec (fun _=>Bool) true false b
def intCmp(op:BinOp):Option (Int->Int->Bool):=
 match op with
 |.eql=>some BX
 |.neq=>some fun x y=>C3 (BX x y)
 |.lss=>some Ev
 |.leq=>some fun x y=>C3 (Ev y x)
 |.gtr=>some fun x y=>Ev y x
 |.geq=>some fun x y=>C3 (Ev x y)
 |_=>none
inductive E where
 |lit (n:Int)
 |var (i:Nat)
 |bin (op:BinOp) (k:IntKind) (a b:E)
 |conv (k:IntKind) (a:E)
 |cell (t:Nat) (a:E) (c:Nat)
 |Bd (t:Nat) (a:E) (c:Nat)
 deriving Repr,Inhabited
def Dw:BinOp->Nat
 |.add=>0 |.sub=>1 |.mul=>2 |.quo=>3 |.rem=>4 |.and=>5 |.or=>6 |.xor=>7 |.shl=>8 |.shr=>9 |.andNot=>10
 |.eql=>11 |.neq=>12 |.lss=>13 |.leq=>14 |.gtr=>15 |.geq=>16
def E.AJ:E->E->Bool
 |.lit a,.lit b=>BX a b
 |.var a,.var b=>Nat.beq a b
 |.bin o k a b,.bin o' k' a' b'=>Nat.beq (Dw o) (Dw o')&&Nat.beq (Ax k) (Ax k')&&a.AJ a'&&b.AJ b'
 |.conv k a,.conv k' a'=>Nat.beq (Ax k) (Ax k')&&a.AJ a'
 |.cell t a c,.cell t' a' c'=>Nat.beq t t'&&(Nat.beq c c'&&a.AJ a')
 |.Bd t a c,.Bd t' a' c'=>Nat.beq t t'&&(Nat.beq c c'&&a.AJ a')
 |_,_=>false
inductive A where
 |bool (b:Bool)
 |int (k:IntKind) (n:Int)
 |sym (k:IntKind) (e:E)
 |str (s:ByteArray)
 |ptr (b off:Nat)
 |HB
 |slice (b off len cap:Nat)
 |KW (b off len es:Nat)
 |B7
 |emp
 |map (r:Nat)
 |Jv
 |fn (f:FuncId) (DD:List Nat)
 |Qe (l:Nat)
 |KF
 |any
 |Wz (b es:Nat) (n:E)
 |pt (b:Nat) (e:E) (es c:Nat)
 |C2 (b es:Nat) (n:E)
 |Wp (b es:Nat) (lo n:E)
 |sb (e:E)
 |rc (t:Nat) (e:E) (c:Nat)
 |P3 (t es:Nat) (n:E)
 |NB (t:Nat) (e:E) (es c:Nat)
 |fp (t:Nat)
inductive V where
 |one (a:A)
 |agg (l:List A)
inductive AV where
 |one (a:A)
 |agg (l:List A)
 |Dh (l:List V)
def V.av:V->AV
 |.one a=>.one a
 |.agg l=>.agg l
inductive TL where
 |nil
 |cons (d:Nat) (v:AV) (t:TL)
structure ME where
 key:V
 val:V
 born:Nat
inductive Jp where
 |ret
 |exit (id:Nat)
structure I1 where
 st:LoopState
 B8:Option Jp
 fn:FuncId
 tmps:T AV
 params:List Tmp
 assign:Code
 body:Code
 defs:Nat
inductive Aj where
 |cells (c:T A) (n:Nat) (full:Bool) (Th:Option Nat)
 |map (es:List ME) (clock:Nat)
 |iter (m:Option Nat) (since:Nat) (seen:List Nat) (last:Nat)
 |loop (l:I1)
 |defs (opn:Bool)
 |vm (c:T A) (n:Nat) (sp:List (E×A))
 |row (t es:Nat) (n:E) (sp:List (E×Nat×A))
 |Ej (t:Nat) (kn:List (E×Option V))
 |dead
 |Am (t:Nat×Nat)
structure H where
 bl:T Aj
 next:Nat
structure TI where
 CR:TypeDesc
 size:Nat
 agg:Bool
 zero:List A
 bytes:Nat
 plain:Bool
inductive Od where
 |lo (t:Nat)
 |tm (t:Nat)
 |c (v:AV)
 |bad
structure FR where
 pt:T AV
 tl:TL
 marks:List Nat
inductive Out where
 |norm
 |exit (id:Nat)
 |ret
inductive Task where
 |code (c:Code) (fr:FR)
 |call (f:FuncId) (args:List AV)
 |Qe (l:Nat) (args:List AV)
inductive Rs where
 |code (o:Out) (fr:FR) (h:H)
 |val (v:AV) (h:H)
structure FI where
 nt:Nat
 nl:Nat
 body:Code
 results:List ResultVar
structure HU where
 start:FR->H->Bool
 run:FuncId->Nat->Nat->Option Nat->Code->Bool
 fin:FR->H->FR×H
structure AB where
 ty:Nat->Option TI
 fu:Nat->Option FI
 cmp:BinOp->E->E->Option Bool
 ext:FuncId->List AV->H->Option (AV×H)
 norm:E->Option Int:=fun _=>none
 pa:FuncId->Bool:=fun _=>false
 sum:E->E->Option E:=fun _ _=>none
 dif:E->E->Option E:=fun _ _=>none
 cat:Nat->E->Nat->E->E->Option Nat:=fun _ _ _ _ _=>none
 lp:FuncId->Nat->Option HU:=fun _ _=>none
 rd:Nat->E->Nat->Option A:=fun _ _ _=>none
 mr:Nat->E->Option (Option V):=fun _ _=>none
structure Ctx where
 fn:FuncId
 nt:Nat
 nl:Nat
 round:Option Nat
abbrev OR:=Option Rs
abbrev Rec:=Ctx->Task->H->OR
abbrev K:=AV->H->OR
abbrev PK:=T AV->TL->H->OR
abbrev Fx:=Rec->Ctx->K->T AV->TL->H->OR
def H.get(h:H)(b:Nat):Option Aj:=T.get h.1 b
def H.put(h:H)(b:Nat)(x:Aj):H:=⟨T.set h.1 b x,h.2⟩
def H.new(h:H)(x:Aj):H:=⟨T.set h.1 h.2 x,Nat.succ h.2⟩
def H.Sk(h:H)(l:List A)(n:Nat):H:=h.new (.cells (T.ofList l) n true none)
def Kz(b:Aj)(k:T A->Nat->Bool->Option Nat->OR):OR:=
 @Aj.rec (fun _=>OR) k (fun _ _=>none) (fun _ _ _ _=>none) (fun _=>none) (fun _=>none) (fun _ _ _=>none) (fun _ _ _ _=>none) (fun _ _=>none) none (fun _=>none) b
def BS{α:Type}(o:Option α)(k:α->OR):OR:=@Option.rec α (fun _=>OR) none k o
def Dy(b:Bool)(k:OR):OR:=@Bool.rec (fun _=>OR) none k b
def H.YH(h:H)(b off:Nat)(k:A->OR):OR:=
 @Option.rec Aj (fun _=>OR) none (fun x=>Kz x fun c n _ _=>@Bool.rec (fun _=>OR) none (@Option.rec A (fun _=>OR) none k (T.get c off)) (Nat.ble (Nat.succ off) n)) (T.get h.1 b)
def H.KK(h:H)(b off m:Nat)(k:List A->OR):OR:=
 @Option.rec Aj (fun _=>OR) none (fun x=>Kz x fun c n _ _=>@Bool.rec (fun _=>OR) none (@Option.rec (List A) (fun _=>OR) none k (T.slice c off m)) (Nat.ble (Nat.add off m) n)) (T.get h.1 b)
def CP(h:H)(s:Option Nat):H:=@Option.rec Nat (fun _=>H) h (fun x=>h.put x .dead) s
def H.write(h:H)(b off:Nat)(vs:List A)(k:H->OR):OR:=
 @Option.rec Aj (fun _=>OR) none (fun x=>Kz x fun c n full Th=>
  @Bool.rec (fun _=>OR) none (k (CP (h.put b (.cells (T.over c off vs) n full none)) Th)) (Nat.ble (Nat.add off (len vs)) n)) (T.get h.1 b)
def Zm(t:Nat)(tl:TL)(k:AV->OR):OR:=@TL.rec (fun _=>OR) none (fun d v _ r=>@Bool.rec (fun _=>OR) r (k v) (Nat.beq d t)) tl
def ev(x:Od)(pt:T AV)(tl:TL)(k:AV->OR):OR:=@Od.rec (fun _=>OR) (fun t=>@Option.rec AV (fun _=>OR) none k (T.get pt t)) (fun t=>Zm t tl k) k none x
def DI(v:AV)(k:A->OR):OR:=@AV.rec (fun _=>OR) k (fun _=>none) (fun _=>none) v
def YD(v:AV)(k:Nat->Nat->OR):OR:=
 @AV.rec (fun _=>OR) (fun a=>@A.rec (fun _=>OR) (fun _=>none) (fun _ _=>none) (fun _ _=>none) (fun _=>none) k none (fun _ _ _ _=>none) (fun _ _ _ _=>none) none none (fun _=>none) none (fun _ _=>none) (fun _=>none) none none (fun _ _ _=>none) (fun _ _ _ _=>none) (fun _ _ _=>none) (fun _ _ _ _=>none) (fun _=>none) (fun _ _ _=>none) (fun _ _ _=>none) (fun _ _ _ _=>none) (fun _=>none) a) (fun _=>none) (fun _=>none) v
def AeO(v:AV)(k:Bool->OR):OR:=
 @AV.rec (fun _=>OR) (fun a=>@A.rec (fun _=>OR) k (fun _ _=>none) (fun _ _=>none) (fun _=>none) (fun _ _=>none) none (fun _ _ _ _=>none) (fun _ _ _ _=>none) none none (fun _=>none) none (fun _ _=>none) (fun _=>none) none none (fun _ _ _=>none) (fun _ _ _ _=>none) (fun _ _ _=>none) (fun _ _ _ _=>none) (fun _=>none) (fun _ _ _=>none) (fun _ _ _=>none) (fun _ _ _ _=>none) (fun _=>none) a) (fun _=>none) (fun _=>none) v
def cellsOf(v:AV)(k:List A->OR):OR:=@AV.rec (fun _=>OR) (fun a=>k [a]) k (fun _=>none) v
def vK(v:AV)(k:V->OR):OR:=@AV.rec (fun _=>OR) (fun a=>k (.one a)) (fun l=>k (.agg l)) (fun _=>none) v
def AjL:A->Option Nat
 |.int _ (.ofNat n)=>some n
 |_=>none
def VL(v:AV)(k:Nat->OR):OR:=DI v fun a=>BS (AjL a) k
def HK:Value->Option A
 |.bool b=>some (.bool b)
 |.int k n=>some (.int k n)
 |.string s=>some (.str s)
 |.pointer none=>some .HB
 |.slice none 0 0=>some .B7
 |.map none=>some .Jv
 |.nilFunc=>some .KF
 |.func (.func f) ⟨[]⟩ ⟨[]⟩=>some (.fn f [])
 |_=>none
def Yp{α β:Type}(f:α->Option β)(l:List α):Option (List β):=@List.rec α (fun _=>Option (List β)) (some []) (fun x _ r=>Pp (f x) r) l
def valueOf:Value->Option AV
 |.agg cs=>match Yp HK cs.toList with
  |some l=>some (.agg l)
  |none=>none
 |v=>match HK v with
  |some a=>some (.one a)
  |none=>none
def Dn(nl t:Nat):Od:=@Bool.rec (fun _=>Od) (.tm t) (.lo t) (Nat.blt t nl)
def od(nl:Nat)(x:Operand):Od:=
 match x with
 |.tmp t=>Dn nl t
 |.const v=>match valueOf v with
  |some v=>.c v
  |none=>.bad
 |.func f=>.c (.one (.fn f []))
 |.global _=>.bad
def OT(nl:Nat)(l:List Operand):List Od:=@List.rec Operand (fun _=>List Od) [] (fun x _ r=>od nl x::r) l
def JQ(l:List Od)(pt:T AV)(tl:TL)(k:List AV->OR):OR:=
 @List.rec Od (fun _=>(List AV->OR)->OR) (fun k=>k []) (fun x _ r k=>ev x pt tl fun v=>r fun vs=>k (v::vs)) l k
def Alu(x:Od):Fx:=fun _ _ k pt tl h=>ev x pt tl fun v=>k v h
def AgP(c a b:Od):Fx:=fun _ _ k pt tl h=>ev c pt tl fun v=>AeO v fun t=>@Bool.rec (fun _=>OR) (ev b pt tl fun v=>k v h) (ev a pt tl fun v=>k v h) t
def Acf(zero:T A)(n:Nat):Fx:=fun _ _ k _ _ h=>k (.one (.ptr h.2 0)) (h.new (.cells zero n true none))
def Alr(x:Od):Fx:=fun _ _ k pt tl h=>ev x pt tl fun v=>cellsOf v fun l=>k (.one (.ptr h.2 0)) (h.Sk l (len l))
def W7(x:Option Bool):Bool:=match x with |some b=>b|none=>false
def W9(C:AB)(a b:E):Bool:=match a with
 |.lit x=>(match b with |.lit y=>Ev x y|b=>W7 (C.cmp .lss (.lit x) b))
 |a=>W7 (C.cmp .lss a b)
def leE(C:AB)(a b:E):Bool:=match a with
 |.lit x=>(match b with |.lit y=>C3 (Ev y x)|b=>W7 (C.cmp .leq (.lit x) b))
 |a=>bif a.AJ b then true else W7 (C.cmp .leq a b)
def eqE(C:AB)(a b:E):Option Bool:=bif a.AJ b then some true else match a with
 |.lit x=>(match b with |.lit y=>some (BX x y)|b=>C.cmp .eql (.lit x) b)
 |a=>C.cmp .eql a b
def SV(C:AB)(a b:E):Option E:=match a with
 |.lit x=>bif BX x 0 then some b else (match b with |.lit y=>some (.lit (Aau x y))|b=>C.sum (.lit x) b)
 |a=>match b with |.lit y=>bif BX y 0 then some a else C.sum a (.lit y)|b=>C.sum a b
def AiQ(C:AB)(a b:E):Option E:=match b with
 |.lit y=>bif BX y 0 then some a else (match a with |.lit x=>some (.lit (Ad7 x y))|a=>C.dif a (.lit y))
 |b=>C.dif a b
def ptK(v:AV)(k:Nat->E->Nat->Nat->OR)(r:OR):OR:=match v with |.one (.pt b e es c)=>k b e es c|_=>r
def AdB(v:AV)(k:Nat->E->Nat->Nat->OR)(r:OR):OR:=match v with |.one (.NB t e es c)=>k t e es c|_=>r
def Agp(a:A)(k:Nat->Nat->E->OR)(r:OR):OR:=match a with |.P3 t es n=>k t es n|_=>r
def Alo(C:AB)(a:A):A:=match a with
 |.sb e=>(match C.norm e with |some n=>.bool (C3 (BX n 0))|none=>.sb e)
 |.sym k e=>(match C.norm e with |some n=>.int k n|none=>.sym k e)
 |a=>a
def NW(C:AB)(e:E)(c:Nat)(l:List (E×Nat×A)):Option (Option A):=
 @List.rec (E×Nat×A) (fun _=>Option (Option A)) (some none) (fun p _ r=>@Bool.rec (fun _=>Option (Option A)) r
  (match eqE C p.1 e with |some b=>bif b then some (some p.2.2) else r|none=>none) (Nat.beq p.2.1 c)) l
def OZ(C:AB)(t:Nat)(e:E)(c:Nat)(sp:List (E×Nat×A)):Option A:=match NW C e c sp with
 |some (some a)=>some (Alo C a)
 |some none=>some (match C.rd t e c with |some a=>a|none=>.rc t e c)
 |none=>none
def Gj(C:AB)(t:Nat)(e:E)(sp:List (E×Nat×A))(n:Nat):Nat->Option (List A):=
 @Nat.rec (fun _=>Nat->Option (List A)) (fun _=>some []) (fun _ r c=>Pp (OZ C t e c sp) (r (Nat.succ c))) n
def CO(h:H)(b:Nat)(k:Nat->Nat->E->List (E×Nat×A)->OR):OR:=match h.get b with |some (.row t es n sp)=>k t es n sp|_=>none
def OW(C:AB)(h:H)(b:Nat)(e:E)(es c m:Nat)(k:List A->OR):OR:=CO h b fun t JP n sp=>
 Dy (Nat.beq es JP&&(Nat.ble (Nat.add c m) es&&W9 C e n)) (BS (Gj C t e sp m c) k)
def HF(e:E)(l:List A)(sp:List (E×Nat×A)):Nat->List (E×Nat×A):=
 @List.rec A (fun _=>Nat->List (E×Nat×A)) (fun _=>sp) (fun a _ r c=>(e,c,a)::r (Nat.succ c)) l
def Acq(C:AB)(h:H)(b:Nat)(e:E)(es c:Nat)(l:List A)(k:H->OR):OR:=CO h b fun t JP n sp=>
 Dy (Nat.beq es JP&&(Nat.ble (Nat.add c (len l)) es&&W9 C e n)) (k (h.put b (.row t JP n (HF e l sp c))))
def Ala(l:List A)(k:A->OR):OR:=match l with | [a]=>k a|_=>none
def Uc(C:AB)(t:Nat)(e:E)(es c m:Nat)(k:List A->OR):OR:=Dy (Nat.ble (Nat.add c m) es) (BS (Gj C t e [] m c) k)
def Ach(C:AB)(a:Od):Fx:=fun _ _ k pt tl h=>ev a pt tl fun v=>AdB v (fun t e es c=>Uc C t e es c 1 fun l=>Ala l fun a=>k (.one a) h) <| ptK v (fun b e es c=>OW C h b e es c 1 fun l=>Ala l fun a=>k (.one a) h) (YD v fun b off=>h.YH b off fun a=>k (.one a) h)
def Aci(C:AB)(n:Nat)(a:Od):Fx:=fun _ _ k pt tl h=>ev a pt tl fun v=>AdB v (fun t e es c=>Uc C t e es c n fun l=>k (.agg l) h) <| ptK v (fun b e es c=>OW C h b e es c n fun l=>k (.agg l) h) (YD v fun b off=>h.KK b off n fun l=>k (.agg l) h)
def Acj(C:AB)(n:Nat)(a x:Od):Fx:=fun _ _ k pt tl h=>ev a pt tl fun p=>ptK p
 (fun b e es c=>ev x pt tl fun v=>cellsOf v fun l=>Dy (Nat.beq (len l) n) (Acq C h b e es c l fun h=>k (.Dh []) h))
 (YD p fun b off=>ev x pt tl fun v=>cellsOf v fun l=>Dy (Nat.beq (len l) n) (h.write b off l fun h=>k (.Dh []) h))
def Arw(d:Nat)(a:Od):Fx:=fun _ _ k pt tl h=>ev a pt tl fun p=>AdB p (fun t e es c=>k (.one (.NB t e es (Nat.add c d))) h) <| ptK p (fun b e es c=>k (.one (.pt b e es (Nat.add c d))) h) (YD p fun b off=>k (.one (.ptr b (Nat.add off d))) h)
def Arq(k:A->OR)(a:A):OR:=
 match a with
 |.ptr b off=>k (.ptr b off)
 |.pt b e es c=>k (.pt b e es c)
 |.NB t e es c=>k (.NB t e es c)
 |.fp t=>k (.fp t)
 |.fn f c=>k (.fn f c)
 |.Qe l=>k (.Qe l)
 |_=>none
def AgO(x:Od):Fx:=fun _ _ k pt tl h=>ev x pt tl fun v=>DI v (Arq fun a=>k (.one a) h)
def IA:BinOp->Bool
 |.eql|.neq|.lss|.leq|.gtr|.geq=>true
 |_=>false
def AcA(op:BinOp)(b:E):Bool:=
 match op with
 |.add|.sub|.mul|.and|.or|.xor|.andNot=>true
 |.quo|.rem=>match b with |.lit n=>Ev 0 n|_=>false
 |.shl|.shr=>match b with |.lit n=>C3 (Ev n 0)|_=>false
 |_=>false
def Jc(C:AB)(op:BinOp)(k:IntKind)(a b:E):Option A:=
 bif IA op then
  match C.cmp op a b with
  |some r=>some (.bool r)
  |none=>bif a.AJ b then (match op with |.eql|.leq|.geq=>some (.bool true)|_=>some (.bool false)) else none
 else bif AcA op b then (match C.norm (.bin op k a b) with |some n=>some (.int k n)|none=>some (.sym k (.bin op k a b))) else none
def eqK:Nat->Nat->Bool:=Nat.beq
def C6(a b:Bool):Bool:=@Bool.rec (fun _=>Bool) (C3 b) b a
inductive CK where
 |int (k:IntKind)
 |bool
 |str
def Zj(C:AB)(x y:E):Option Bool:=match C.cmp .eql x y with
 |some r=>some r
 |none=>bif x.AJ y then some true else none
def E6(C:AB)(c:CK)(a b:A):Option Bool:=
 match c with
 |.int q=>match a,b with
  |.int k x,.int k' y=>bif Nat.beq (Ax k) (Ax q)&&Nat.beq (Ax k') (Ax q) then some (BX x y) else none
  |.sym k x,.sym k' y=>bif Nat.beq (Ax k) (Ax q)&&Nat.beq (Ax k') (Ax q) then Zj C x y else none
  |.sym k x,.int k' y=>bif Nat.beq (Ax k) (Ax q)&&Nat.beq (Ax k') (Ax q) then Zj C x (.lit y) else none
  |.int k x,.sym k' y=>bif Nat.beq (Ax k) (Ax q)&&Nat.beq (Ax k') (Ax q) then Zj C (.lit x) y else none
  |_,_=>none
 |.bool=>match a,b with
  |.bool x,.bool y=>some (C6 x y)
  |_,_=>none
 |.str=>match a,b with
  |.str x,.str y=>some (x==y)
  |_,_=>none
def Z4(a b:Option Bool):Option Bool:=@Option.rec Bool (fun _=>Option Bool) none (fun a=>@Bool.rec (fun _=>Option Bool) (some false) b a) a
def Cj(C:AB)(cs:List CK):List A->List A->Option Bool:=
 @List.rec CK (fun _=>List A->List A->Option Bool) (fun x y=>@List.rec A (fun _=>Option Bool) (@List.rec A (fun _=>Option Bool) (some true) (fun _ _ _=>none) y) (fun _ _ _=>none) x)
  (fun c _ r x y=>@List.rec A (fun _=>Option Bool) none (fun a as _=>@List.rec A (fun _=>Option Bool) none (fun b bs _=>Z4 (E6 C c a b) (r as bs)) y) x) cs
def eqV(C:AB)(agg:Bool)(cs:List CK)(a b:V):Option Bool:=
 match a,b with
 |.one a,.one b=>bif agg then none else match cs with | [c]=>E6 C c a b|_=>none
 |.agg x,.agg y=>bif agg then Cj C cs x y else none
 |_,_=>none
def ID(h:H)(b:Nat):Bool:=match h.get b with |some (.cells _ _ _ none)=>true|_=>false
def Afw(h:H)(a b:A):Option Bool:=
 match a,b with
 |.ptr b o,.ptr b' o'=>bif Nat.beq b b' then some (Nat.beq o o') else bif ID h b&&ID h b' then some false else none
 |.ptr ..,.HB|.HB,.ptr .. =>some false
 |.NB ..,.HB|.HB,.NB .. =>some false
 |.fp ..,.HB|.HB,.fp .. =>some false
 |.HB,.HB=>some true
 |_,_=>none
def ZT(a b:A):Option Bool:=
 match a,b with
 |.slice ..,.B7|.B7,.slice .. |.KW ..,.B7|.B7,.KW .. |.emp,.B7|.B7,.emp=>some false
 |.B7,.B7=>some true
 |_,_=>none
def ZS(a b:A):Option Bool:=
 match a,b with
 |.map _,.Jv|.Jv,.map _=>some false
 |.Jv,.Jv=>some true
 |_,_=>none
def ZR(a b:A):Option Bool:=
 match a,b with
 |.fn ..,.KF|.KF,.fn .. |.Qe _,.KF|.KF,.Qe _=>some false
 |.KF,.KF=>some true
 |_,_=>none
def Mg(C:AB)(op:BinOp)(a b:A)(k:A->OR):OR:=
 match a,b with
 |.sym q x,.sym q' y=>Dy (Nat.beq (Ax q) (Ax q')) (BS (Jc C op q x y) k)
 |.sym q x,.int q' y=>match op with
  |.shl|.shr=>BS (Jc C op q x (.lit y)) k
  |_=>Dy (Nat.beq (Ax q) (Ax q')) (BS (Jc C op q x (.lit y)) k)
 |.int q x,.sym q' y=>Dy (Nat.beq (Ax q) (Ax q')) (BS (Jc C op q (.lit x) y) k)
 |_,_=>none
def RL(a b:A)(k:IntKind->Int->IntKind->Int->OR)(r:OR):OR:=
 @A.rec (fun _=>OR) (fun _=>r)
  (fun q x=>@A.rec (fun _=>OR) (fun _=>r) (fun q' y=>k q x q' y) (fun _ _=>r) (fun _=>r) (fun _ _=>r) r (fun _ _ _ _=>r) (fun _ _ _ _=>r) r r (fun _=>r) r (fun _ _=>r) (fun _=>r) r r (fun _ _ _=>r) (fun _ _ _ _=>r) (fun _ _ _=>r) (fun _ _ _ _=>r) (fun _=>r) (fun _ _ _=>r) (fun _ _ _=>r) (fun _ _ _ _=>r) (fun _=>r) b)
  (fun _ _=>r) (fun _=>r) (fun _ _=>r) r (fun _ _ _ _=>r) (fun _ _ _ _=>r) r r (fun _=>r) r (fun _ _=>r) (fun _=>r) r r (fun _ _ _=>r) (fun _ _ _ _=>r) (fun _ _ _=>r) (fun _ _ _ _=>r) (fun _=>r) (fun _ _ _=>r) (fun _ _ _=>r) (fun _ _ _ _=>r) (fun _=>r) a
def Vc(C:AB)(op:BinOp)(f:Int->Int->Bool)(a b:A)(k:A->OR):OR:=
 RL a b (fun q x q' y=>Dy (Nat.beq (Ax q) (Ax q')) (k (.bool (f x y)))) (Mg C op a b k)
def Abk(C:AB)(op:BinOp)(f:IntKind->Int->Int->Option Int)(a b:A)(k:A->OR):OR:=
 RL a b (fun q x q' y=>Dy (Nat.beq (Ax q) (Ax q')) (BS (f q x y) fun n=>k (.int q n))) (Mg C op a b k)
def Abl(C:AB)(op:BinOp)(f:IntKind->Int->Int->Option Int)(a b:A)(k:A->OR):OR:=
 RL a b (fun q x _ y=>BS (f q x y) fun n=>k (.int q n)) (Mg C op a b k)
def ZB(C:AB)(op:BinOp):A->A->(A->OR)->OR:=
 match intCmp op with
 |some f=>Vc C op f
 |none=>match op with
  |.shl|.shr=>Abl C op (E7 op)
  |_=>Abk C op (E7 op)
def Alq(f:A->A->(A->OR)->OR)(x y:Od):Fx:=fun _ _ k pt tl h=>ev x pt tl fun a=>DI a fun a=>ev y pt tl fun b=>DI b fun b=>f a b fun r=>k (.one r) h
def Apq(C:AB)(ne:Bool)(cs:List CK)(a b:AV)(k:A->OR):OR:=
 match a,b with
 |.agg x,.agg y=>BS (Cj C cs x y) fun r=>k (.bool (bif ne then C3 r else r))
 |_,_=>none
def QD(C:AB)(ne:Bool)(cs:List CK)(x y:Od):Fx:=fun _ _ k pt tl h=>ev x pt tl fun a=>ev y pt tl fun b=>Apq C ne cs a b fun r=>k (.one r) h
def Acg(ne:Bool)(x y:Od):Fx:=fun _ _ k pt tl h=>ev x pt tl fun a=>DI a fun a=>ev y pt tl fun b=>DI b fun b=>BS (Afw h a b) fun r=>k (.one (.bool (bif ne then C3 r else r))) h
def Lb(f:A->A->Option Bool)(ne:Bool)(x y:Od):Fx:=fun _ _ k pt tl h=>ev x pt tl fun a=>DI a fun a=>ev y pt tl fun b=>DI b fun b=>BS (f a b) fun r=>k (.one (.bool (bif ne then C3 r else r))) h
def ZQ(a b:A):Option Bool:=match a,b with |.bool x,.bool y=>some (C6 x y)|_,_=>none
def Y3(ne:Bool)(x y:Od):Fx:=fun _ _ k pt tl h=>ev x pt tl fun a=>DI a fun a=>ev y pt tl fun b=>DI b fun b=>BS (ZQ a b) fun r=>k (.one (.bool (bif ne then C3 r else r))) h
def unF(op:UnOp)(a:A)(k:A->OR):OR:=
 match op,a with
 |.not,.bool b=>k (.bool (C3 b))
 |.neg,.int q n=>k (.int q (KS q (Ad7 0 n)))
 |_,_=>none
def AnU(op:UnOp)(x:Od):Fx:=fun _ _ k pt tl h=>ev x pt tl fun a=>DI a fun a=>unF op a fun r=>k (.one r) h
def AkN(q:IntKind)(a:A)(k:A->OR):OR:=
 match a with
 |.int _ n=>k (.int q (KS q n))
 |.sym _ e=>k (.sym q (.conv q e))
 |_=>none
def AaB(q:IntKind)(x:Od):Fx:=fun _ _ k pt tl h=>ev x pt tl fun a=>DI a fun a=>AkN q a fun r=>k (.one r) h
def WZ(a:AV):Option Nat:=
 match a with
 |.one (.ptr b 0)=>some b
 |_=>none
def Sn(f:FuncId)(DD:List Od):Fx:=fun _ _ k pt tl h=>JQ DD pt tl fun vs=>BS (Yp WZ vs) fun cs=>k (.one (.fn f cs)) h
def Us:Fx:=fun _ _ k _ _ h=>k (.one (.map h.2)) (h.new (.map [] 0))
def AhL(v:AV):Option E:=match v with |.one (.sym _ e)=>some e|_=>none
def loK(C:AB)(e:E)(k:Nat->OR):OR:=
 bif W7 (C.cmp .geq e (.lit 33)) then k 33 else bif W7 (C.cmp .geq e (.lit 22)) then k 22 else Dy (W7 (C.cmp .geq e (.lit 11))) (k 11)
def P8(C:AB)(zero:List A)(size:Nat)(l c:Od):Fx:=fun _ _ k pt tl h=>ev l pt tl fun lv=>
 match AhL lv with
 |some e=>ev c pt tl fun cv=>BS (AhL cv) fun e'=>Dy (e.AJ e'&&W7 (C.cmp .leq e (.lit 64))) (loK C e fun m=>k (.one (.Wz h.2 size e)) (h.new (.cells (T.ofList (C0 zero m)) (Nat.mul m size) false none)))
 |none=>VL lv fun ln=>ev c pt tl fun cv=>VL cv fun cp=>
  Dy (Nat.ble ln cp&&Nat.ble cp 65536) (k (.one (.slice h.2 0 ln cp)) (h.Sk (C0 zero cp) (Nat.mul cp size)))
def Rv(parts:List (Nat×Nat×Od))(z:List A)(pt:T AV)(tl:TL)(k:List A->OR):OR:=
 @List.rec (Nat×Nat×Od) (fun _=>List A->OR) k (fun p _ r z=>ev p.2.2 pt tl fun v=>cellsOf v fun l=>Dy (Nat.beq (len l) p.2.1) (r (JF l z p.1))) parts z
def VQ(zero:List A)(parts:List (Nat×Nat×Od)):Fx:=fun _ _ k pt tl h=>Rv parts zero pt tl fun l=>k (.agg l) h
def VS(zero:List A)(ln:Nat)(parts:List (Nat×Nat×Od)):Fx:=fun _ _ k pt tl h=>Rv parts zero pt tl fun l=>k (.one (.slice h.2 0 ln ln)) (h.Sk l (len l))
def Kv(x:Option Od)(y d:Nat)(pt:T AV)(tl:TL)(k:Nat->OR):OR:=
 match x with
 |none=>k d
 |some x=>ev x pt tl fun v=>VL v fun n=>Dy (Nat.ble n y) (k n)
def Aoy(b off size l hi m:Nat)(k:A->OR):OR:=k (.slice b (bif Nat.beq m l then off else Nat.add off (Nat.mul l size)) (Nat.sub hi l) (Nat.sub m l))
def Asl(b off size l hi room:Nat)(k:A->OR):OR:=
 @Bool.rec (fun _=>OR) (Dy (Nat.beq l hi) (k .emp)) (k (.KW b (Nat.add off (Nat.mul l size)) (Nat.sub hi l) size)) (Nat.ble (Nat.succ l) room)
def Pc(ex:Bool)(b off ln room size:Nat)(lo hi mx:Option Od)(pt:T AV)(tl:TL)(k:A->OR):OR:=
 match mx with
 |some _=>match hi with
  |some _=>Kv mx room 0 pt tl fun m=>Kv hi m 0 pt tl fun h'=>Kv lo h' 0 pt tl fun l=>Aoy b off size l h' m k
  |none=>none
 |none=>Kv hi room ln pt tl fun h'=>Kv lo h' 0 pt tl fun l=>bif ex then Aoy b off size l h' room k else Asl b off size l h' room k
def Aor(h:H)(b off size:Nat)(k:Nat->OR):OR:=BS (h.get b) fun x=>Kz x fun _ n _ _=>k (Nat.div (Nat.sub n off) size)
def Ob(size:Nat)(h:H)(a:A)(lo hi mx:Option Od)(pt:T AV)(tl:TL)(k:A->OR):OR:=
 match a with
 |.slice b off ln c=>Pc true b off ln c size lo hi mx pt tl k
 |.KW b off ln es=>Dy (Nat.beq es size) (Aor h b off size fun r=>Pc false b off ln r size lo hi mx pt tl k)
 |.B7=>match mx with
  |none=>Kv hi 0 0 pt tl fun _=>Kv lo 0 0 pt tl fun _=>k .B7
  |some _=>none
 |_=>none
def AfQ(C:AB)(a:A):Option E:=match a with
 |.int _ (.ofNat n)=>some (.lit (.ofNat n))
 |.sym _ e=>bif W7 (C.cmp .geq e (.lit 0)) then some e else none
 |_=>none
def AcX(C:AB)(x:Option Od)(d:E)(pt:T AV)(tl:TL)(k:E->OR):OR:=match x with
 |none=>k d
 |some x=>ev x pt tl fun v=>DI v fun a=>BS (AfQ C a) k
def Ao0(C:AB)(b es:Nat)(lo0 n:E)(lo hi mx:Option Od)(pt:T AV)(tl:TL)(k:A->OR):OR:=match mx with
 |some _=>none
 |none=>AcX C hi n pt tl fun y=>AcX C lo (.lit 0) pt tl fun x=>Dy (leE C x y&&leE C y n) (BS (SV C lo0 x) fun l=>BS (AiQ C y x) fun m=>k (.Wp b es l m))
def YR(a:A)(k:Nat->Nat->E->E->OR)(r:OR):OR:=match a with |.C2 b es n=>k b es (.lit 0) n|.Wp b es lo n=>k b es lo n|_=>r
def AgQ(C:AB)(size:Nat)(x:Od)(lo hi mx:Option Od):Fx:=fun _ _ k pt tl h=>ev x pt tl fun v=>DI v fun a=>YR a
 (fun b es l n=>Dy (Nat.beq es size) (Ao0 C b es l n lo hi mx pt tl fun a=>k (.one a) h))
 (Ob size h a lo hi mx pt tl fun a=>k (.one a) h)
def Sq(n size:Nat)(x:Od)(lo hi mx:Option Od):Fx:=fun _ _ k pt tl h=>ev x pt tl fun v=>YD v fun b off=>Pc true b off n n size lo hi mx pt tl fun a=>k (.one a) h
def Ss(l:List A)(off size:Nat)(agg:Bool)(k:AV->OR):OR:=
 @Bool.rec (fun _=>OR) (BS (nth l off) fun a=>k (.one a)) (k (.agg (PE (Ri off l) size))) agg
def Apr(v:AV)(k:List A->OR):OR:=@AV.rec (fun _=>OR) (fun _=>none) k (fun _=>none) v
def AjS(off size:Nat)(agg:Bool)(x:Od):Fx:=fun _ _ k pt tl h=>ev x pt tl fun v=>Apr v fun l=>Ss l off size agg fun v=>k v h
def AnT(ln size:Nat)(x i:Od):Fx:=fun _ _ k pt tl h=>ev x pt tl fun v=>ptK v
 (fun b e es c=>ev i pt tl fun iv=>VL iv fun n=>Dy (Nat.ble (Nat.succ n) ln) (k (.one (.pt b e es (Nat.add c (Nat.mul n size)))) h))
 (YD v fun b off=>ev i pt tl fun iv=>VL iv fun n=>Dy (Nat.ble (Nat.succ n) ln) (k (.one (.ptr b (Nat.add off (Nat.mul n size)))) h))
def Ah7(a:A)(k:Nat->Nat->Nat->OR):OR:=
 match a with
 |.slice b off ln _=>k b off ln
 |.KW b off ln _=>k b off ln
 |_=>none
def Ak6(a:A)(k:Nat->Nat->E->OR)(r:OR):OR:=match a with |.Wz b es n=>k b es n|_=>r
def AgN(C:AB)(size:Nat)(x i:Od):Fx:=fun _ _ k pt tl h=>ev x pt tl fun v=>DI v fun a=>Agp a
 (fun t es n=>ev i pt tl fun iv=>DI iv fun i=>BS (AfQ C i) fun e=>Dy (Nat.beq es size&&W9 C e n) (k (.one (.NB t e es 0)) h)) <| YR a
 (fun b es lo n=>ev i pt tl fun iv=>DI iv fun i=>BS (AfQ C i) fun e=>Dy (Nat.beq es size&&W9 C e n) (BS (SV C lo e) fun e'=>k (.one (.pt b e' es 0)) h)) <| Ak6 a
 (fun b es n=>ev i pt tl fun iv=>VL iv fun j=>Dy (Nat.beq es size&&W7 (C.cmp .lss (.lit (.ofNat j)) n)) (k (.one (.ptr b (Nat.mul j size))) h))
 (Ah7 a fun b off ln=>ev i pt tl fun iv=>VL iv fun n=>Dy (Nat.ble (Nat.succ n) ln) (k (.one (.ptr b (Nat.add off (Nat.mul n size)))) h))
def Aa5(h:H)(m:A)(k:Nat->Nat->List (E×Option V)->OR)(r:OR):OR:=match m with
 |.map b=>match h.get b with
  |some (.Ej t kn)=>k b t kn
  |_=>r
 |_=>r
def Agh(ka:Bool)(kc:List CK)(q:V):Option E:=match q with
 |.one a=>bif ka then none else match kc with
  | [.int .i64]=>(match a with |.int .i64 n=>some (.lit n)|.sym .i64 e=>some e|_=>none)
  |_=>none
 |_=>none
def Aa1(C:AB)(t:Nat)(e:E)(l:List (E×Option V)):Option (Option V):=
 @List.rec (E×Option V) (fun _=>Option (Option V)) (C.mr t e) (fun p _ r=>match eqE C p.1 e with |some b=>bif b then some p.2 else r|none=>none) l
def Abu(h:H)(a:A)(k:List ME->OR):OR:=
 match a with
 |.Jv=>k []
 |.map r=>match h.get r with
  |some (.map es _)=>k es
  |_=>none
 |_=>none
def AjE(h:H)(v:AV)(k:Nat->List ME->Nat->OR):OR:=
 match v with
 |.one (.map r)=>match h.get r with
  |some (.map es clock)=>k r es clock
  |_=>none
 |_=>none
def Xw(e:ME)(i:Nat)(q:Option Bool)(r:Nat->Option (Option (Nat×ME))):Option (Option (Nat×ME)):=
 match q with
 |some q=>bif q then some (some (i,e)) else r (Nat.succ i)
 |none=>none
def LC(C:AB)(ka:Bool)(kc:List CK)(q:V)(l:List ME)(i:Nat):Option (Option (Nat×ME)):=
 @List.rec ME (fun _=>Nat->Option (Option (Nat×ME))) (fun _=>some none) (fun e _ r i=>Xw e i (eqV C ka kc q e.key) r) l i
def Yi(ka:Bool)(kc:List CK)(q:V):Bool:=
 match q with
 |.one _=>C3 ka
 |.agg l=>ka&&Nat.beq (len l) (len kc)
def VJ(es:List ME)(i:Nat)(e:ME):List ME:=@List.rec ME (fun _=>Nat->List ME) (fun _=>[]) (fun x t r i=>@Nat.rec (fun _=>List ME) (e::t) (fun i _=>x::r i) i) es i
def Vr(es:List ME)(i:Nat):List ME:=@List.rec ME (fun _=>Nat->List ME) (fun _=>[]) (fun x t r i=>@Nat.rec (fun _=>List ME) t (fun i _=>x::r i) i) es i
def okV(ok:Bool)(v:V)(b:Bool):AV:=bif ok then .Dh [v,.one (.bool b)] else v.av
def Sm(C:AB)(ka:Bool)(kc:List CK)(zero:V)(ok:Bool)(x q:Od):Fx:=fun _ _ k pt tl h=>ev x pt tl fun m=>DI m fun m=>Aa5 h m
 (fun _ t kn=>ev q pt tl fun qv=>vK qv fun qv=>BS (Agh ka kc qv) fun e=>BS (Aa1 C t e kn) fun o=>match o with |some v=>k (okV ok v true) h|none=>k (okV ok zero false) h) <| Abu h m fun es=>ev q pt tl fun qv=>vK qv fun qv=>Dy (Yi ka kc qv) (
 match LC C ka kc qv es 0 with
 |some (some (_,e))=>k (okV ok e.val true) h
 |some none=>k (okV ok zero false) h
 |none=>none)
def Y5(C:AB)(ka:Bool)(kc:List CK)(m q x:Od):Fx:=fun _ _ k pt tl h=>ev m pt tl fun m=>DI m fun m1=>Aa5 h m1
 (fun b t kn=>ev q pt tl fun qv=>vK qv fun qv=>ev x pt tl fun xv=>vK xv fun xv=>BS (Agh ka kc qv) fun e=>k (.Dh []) (h.put b (.Ej t ((e,some xv)::kn)))) <| AjE h m fun r es clock=>ev q pt tl fun qv=>vK qv fun qv=>ev x pt tl fun xv=>vK xv fun xv=>Dy (Yi ka kc qv) (
 match LC C ka kc qv es 0 with
 |some (some (i,e))=>k (.Dh []) (h.put r (.map (VJ es i ⟨qv,xv,e.born⟩) clock))
 |some none=>k (.Dh []) (h.put r (.map (app es [⟨qv,xv,clock⟩]) (Nat.succ clock)))
 |none=>none)
def Ur(x:Od)(i:Nat):Fx:=fun _ _ k pt tl h=>ev x pt tl fun v=>
 match v with
 |.Dh l=>BS (nth l i) fun v=>k v.av h
 |_=>none
def AdC(a:A)(k:Nat->OR):OR:=
 match a with
 |.slice _ _ n _=>k n
 |.KW _ _ n _=>k n
 |.B7|.emp=>k 0
 |_=>none
def ZZ(h:H)(size n:Nat)(a:A)(k:List A->OR):OR:=
 match a with
 |.slice b off _ _=>h.KK b off (Nat.mul n size) k
 |.KW b off _ _=>h.KK b off (Nat.mul n size) k
 |.B7|.emp=>Dy (Nat.beq n 0) (k [])
 |_=>none
def X3(h:H)(size BA:Nat)(cs:List A)(k:K):OR:=
 Dy (Nat.ble BA 65536) (k (.one (.KW h.2 0 BA size)) (h.new (.cells (T.ofList cs) (Nat.mul BA size) false none)))
def AjG(h:H)(b size BA:Nat)(AL:Bool)(c:T A)(m:Nat)(full:Bool)(Th:Option Nat)(cs:List A)(k:K):OR:=
 Dy (Nat.ble BA 65536) (k (.one (.KW h.2 0 BA size))
  (CP ((h.new (.cells (T.ofList cs) (Nat.mul BA size) false (bif AL then some b else none))).put b (bif AL then .cells c m full (some h.2) else .dead)) Th))
def Ai5(size:Nat)(h:H)(s x:A)(k:K):OR:=
 AdC x fun n=>ZZ h size n x fun new=>
 match s with
 |.B7=>@Bool.rec (fun _=>OR) (X3 h size n new k) (k (.one .B7) h) (Nat.beq n 0)
 |.slice b off ln cap=>
  @Bool.rec (fun _=>OR) (h.KK b off (Nat.mul ln size) fun CW=>X3 h size (Nat.add ln n) (app CW new) k)
   (h.write b (Nat.add off (Nat.mul ln size)) new fun h=>k (.one (.slice b off (Nat.add ln n) cap)) h) (Nat.ble (Nat.add ln n) cap)
 |.KW b off ln es=>Dy (Nat.beq es size)
  (BS (h.get b) fun x=>Kz x fun c m full Th=>
  @Bool.rec (fun _=>OR) (Dy (Nat.beq off 0) (h.KK b 0 (Nat.mul ln size) fun CW=>AjG h b size (Nat.add ln n) (Nat.beq (Nat.mul ln size) m) c m full Th (app CW new) k))
   (h.write b (Nat.add off (Nat.mul ln size)) new fun h=>k (.one (.KW b off (Nat.add ln n) size)) h) (Nat.ble (Nat.add off (Nat.mul (Nat.add ln n) size)) m))
 |_=>none
def AnY(C:AB)(h:H)(size:Nat)(s:A)(k:Nat->E->List (E×Nat×A)->H->OR)(r:OR):OR:=match s with
 |.B7=>k 0 (.lit 0) [] h
 |.C2 b es n=>CO h b fun t JP n' sp=>Dy (Nat.beq es size&&(Nat.beq JP size&&(n.AJ n'&&sp.all fun p=>W9 C p.1 n))) (k t n sp (h.put b .dead))
 |_=>r
def TT(C:AB)(size:Nat)(n:E)(sp:List (E×Nat×A))(l:List A)(m:Nat):Nat->Option (List (E×Nat×A)):=
 @Nat.rec (fun _=>Nat->Option (List (E×Nat×A))) (fun _=>some sp) (fun _ r i=>match SV C n (.lit (.ofNat i)),r (Nat.succ i) with
  |some e,some q=>some (HF e (PE (Ri (Nat.mul i size) l) size) q 0)
  |_,_=>none) m
def Alc(a:A):Bool:=match a with |.C2 .. =>true|_=>false
def Asm(C:AB)(lo hi:E)(sp:List (E×Nat×A)):Bool:=sp.all fun p=>W9 C p.1 lo||leE C hi p.1
def TD(C:AB)(size:Nat)(h:H)(s x:A)(k:K)(r:OR):OR:=YR x
 (fun b2 es2 lo m=>AnY C h size s (fun t n sp h'=>CO h b2 fun t2 JP n2 sp2=>Dy (Nat.beq es2 size&&Nat.beq JP size) (BS (SV C lo m) fun e3=>Dy (Asm C lo e3 sp2&&leE C e3 n2) (BS (C.cat t n t2 lo m) fun t'=>BS (SV C n m) fun n'=>Dy (leE C n' (.lit 1073741824))
  (k (.one (.C2 h.2 size n')) (h'.new (.row t' size n' sp)))))) r)
 (bif Alc s then AnY C h size s (fun t n sp h'=>AdC x fun m=>ZZ h size m x fun new=>BS (TT C size n sp new m 0) fun Kj=>BS (SV C n (.lit (.ofNat m))) fun n'=>Dy (leE C n' (.lit 1073741824)&&Nat.ble 1 m)
  (k (.one (.C2 h.2 size n')) (h'.new (.row t size n' Kj)))) r else r)
def Y1(C:AB)(size:Nat)(s x:Od):Fx:=fun _ _ k pt tl h=>ev s pt tl fun s=>DI s fun s=>ev x pt tl fun x=>DI x fun x=>TD C size h s x k (Ai5 size h s x k)
def Uq(zero:List A)(size:Nat)(s x:Od):Fx:=fun _ _ k pt tl h=>ev s pt tl fun s=>DI s fun s=>match s with
 |.B7=>ev x pt tl fun v=>VL v fun n=>Dy (Nat.ble 1 n) (X3 h size n (C0 zero n) k)
 |_=>none
def Aj8(n:E):A:=match n with |.lit m=>.int .i64 m|n=>.sym .i64 n
def Als(x:Od):Fx:=fun _ _ k pt tl h=>ev x pt tl fun x=>DI x fun x=>Agp x (fun _ _ n=>k (.one (Aj8 n)) h) <| YR x (fun _ _ _ n=>k (.one (Aj8 n)) h) <| Ak6 x (fun _ _ n=>k (.one (.sym .i64 n)) h) (AdC x fun n=>k (.one (.int .i64 (.ofNat n))) h)
def AaC(n:Nat):Fx:=fun _ _ k _ _ h=>k (.one (.int .i64 (.ofNat n))) h
def Y4(x:Od):Fx:=fun _ _ k pt tl h=>ev x pt tl fun x=>DI x fun x=>Abu h x fun es=>k (.one (.int .i64 (.ofNat (len es)))) h
def Y2(C:AB)(ka:Bool)(kc:List CK)(m q:Od):Fx:=fun _ _ k pt tl h=>ev m pt tl fun m=>DI m fun m1=>Aa5 h m1
 (fun b t kn=>ev q pt tl fun qv=>vK qv fun qv=>BS (Agh ka kc qv) fun e=>k (.Dh []) (h.put b (.Ej t ((e,none)::kn)))) <| ev q pt tl fun qv=>vK qv fun qv=>Dy (Yi ka kc qv) (
 match m with
 |.one .Jv=>k (.Dh []) h
 |m=>AjE h m fun r es clock=>
  match LC C ka kc qv es 0 with
  |some (some (i,_))=>k (.Dh []) (h.put r (.map (Vr es i) clock))
  |some none=>k (.Dh []) (h.put r (.map es clock))
  |none=>none)
def eOf(a:A):Option (IntKind×E):=match a with |.int q n=>some (q,.lit n)|.sym q e=>some (q,e)|_=>none
def aOf(q:IntKind)(e:E):A:=match e with |.lit n=>.int q n|e=>.sym q e
def mmA(C:AB)(mx:Bool)(a b:A):Option A:=match eOf a,eOf b with
 |some (q,x),some (_,y)=>match (bif mx then C.cmp .lss x y else C.cmp .lss y x) with
  |some t=>some (aOf q (bif t then y else x))
  |none=>none
 |_,_=>none
def NJ(C:AB)(mx:Bool)(x y:Od):Fx:=fun _ _ k pt tl h=>ev x pt tl fun x=>DI x fun x=>ev y pt tl fun y=>DI y fun y=>
 RL x y (fun q a _ b=>k (.one (.int q (bif bif mx then Ev a b else Ev b a then b else a))) h) (BS (mmA C mx x y) fun r=>k (.one r) h)
def AhW(r:OR)(k:K):OR:=@Option.rec Rs (fun _=>OR) none (fun r=>@Rs.rec (fun _=>OR) (fun _ _ _=>none) k r) r
def Vj(cs:List Nat):List AV:=@List.rec Nat (fun _=>List AV) [] (fun b _ r=>.one (.ptr b 0)::r) cs
def Apz(rec:Rec)(X:Ctx)(h:H)(vs:List AV)(k:K)(a:A):OR:=
 match a with
 |.fn f DD=>AhW (rec X (.call f (app vs (Vj DD))) h) k
 |.Qe l=>AhW (rec X (.Qe l vs) h) k
 |_=>none
def VU(f:Od)(args:List Od):Fx:=fun rec X k pt tl h=>ev f pt tl fun f=>DI f fun f=>JQ args pt tl fun vs=>Apz rec X h vs k f
def VT(f:FuncId)(args:List Od):Fx:=fun rec X k pt tl h=>JQ args pt tl fun vs=>AhW (rec X (.call f vs) h) k
def A7:Fx:=fun _ _ _ _ _ _=>none
inductive Kk where
 |n0 (f:Fx)
 |n1 (f:Od->Fx) (x:Od)
 |n2 (f:Od->Od->Fx) (x y:Od)
 |n3 (f:Od->Od->Od->Fx) (x y z:Od)
 |nl (f:List Od->Fx) (l:List Od)
 |n1l (f:Od->List Od->Fx) (x:Od) (l:List Od)
inductive Zy where
 |no
 |lo (d:Nat)
 |tm (d:Nat)
 |bad
structure Gd where
 x:Od
 want:Bool
inductive Opr where
 |mk (g:Option Gd) (d:Zy) (op:Kk)
 |bad
def JH{α:Type}(C:AB)(t:TypeId)(bad:α)(k:TI->α):α:=@Option.rec TI (fun _=>α) bad k (C.ty t)
def zeroV(ti:TI):Option V:=bif ti.agg then some (.agg ti.zero) else match ti.zero with | [z]=>some (.one z)|_=>none
def Aav(C:AB)(t:TypeId):Bool:=match C.ty t with |some ti=>ti.agg|none=>false
def opt(nl:Nat)(x:Option Operand):Option Od:=match x with |some x=>some (od nl x)|none=>none
def DF(C:AB)(fs:List Field)(off size:Nat):Bool:=
 match fs with
 | []=>Nat.beq off size
 |f::fs=>match C.ty f.type with
  |some ti=>Nat.beq f.offset off&&f.name != "_" &&DF C fs (Nat.add off ti.size) size
  |none=>false
def P0(l:List (Option (List CK))):Option (List CK):=
 match l with
 | []=>some []
 |x::xs=>match x,P0 xs with
  |some a,some b=>some (app a b)
  |_,_=>none
def Tu(C:AB)(f:Nat):TypeId->Option (List CK):=
 @Nat.rec (fun _=>TypeId->Option (List CK)) (fun _=>none) (fun _ r t=>match C.ty t with
  |some ti=>match ti.CR with
   |.int k=>some [.int k]
   |.bool=>some [.bool]
   |.string=>some [.str]
   |.struct fs=>bif ti.plain&&DF C fs.toList 0 ti.size then P0 (fs.toList.map fun f=>r f.type) else none
   |.array n e=>match C.ty e with
    |some ei=>bif Nat.beq ti.size (Nat.mul n ei.size)&&Nat.ble 1 ei.size then (match r e with |some l=>some (C0 l n)|none=>none) else none
    |none=>none
   |_=>none
  |none=>none) f
def Yh(C:AB)(t:TypeId)(k:Bool->List CK->Kk):Kk:=
 JH C t (.n0 A7) fun ti=>match ti.CR with
  |.map q _=>match Tu C 8 q with
   |some l=>k (Aav C q) l
   |none=>.n0 A7
  |_=>.n0 A7
def placesOf(C:AB)(fs:List Field):Option (List (Nat×Nat)):=Yp (fun f=>match C.ty f.type with |some ti=>some (f.offset,ti.size)|none=>none) fs
def Hp(place:Nat->Option (Nat×Nat))(nl n:Nat)(ps:List (Nat×Operand)):Option (List (Nat×Nat×Od)):=
 Yp (fun p=>match place p.1 with
  |some q=>bif Nat.ble (Nat.add q.1 q.2) n then some (q.1,q.2,od nl p.2) else none
  |none=>none) ps
def SB(size i:Nat):Option (Nat×Nat):=some (Nat.mul i size,size)
def ZD(C:AB)(nl:Nat)(t:TypeId)(ps:List (Nat×Operand)):Kk:=
 JH C t (.n0 A7) fun ti=>match ti.CR with
  |.struct fs=>match placesOf C fs.toList with
   |some pl=>match Hp (nth pl) nl (len ti.zero) ps with
    |some l=>.n0 (VQ ti.zero l)
    |none=>(.n0 A7)
   |none=>(.n0 A7)
  |.array _ e=>JH C e (.n0 A7) fun ei=>match Hp (SB ei.size) nl (len ti.zero) ps with
   |some l=>.n0 (VQ ti.zero l)
   |none=>(.n0 A7)
  |_=>(.n0 A7)
def Kx(C:AB)(nl:Nat)(t:TypeId)(ln:Nat)(ps:List (Nat×Operand)):Kk:=
 JH C t (.n0 A7) fun ti=>match ti.CR with
  |.slice e=>JH C e (.n0 A7) fun ei=>bif Nat.ble (Nat.mul ln ei.size) 65536 then match Hp (SB ei.size) nl (len (C0 ei.zero ln)) ps with
   |some l=>.n0 (VS (C0 ei.zero ln) ln l)
   |none=>(.n0 A7)
   else (.n0 A7)
  |_=>(.n0 A7)
def Amy(C:AB)(s:TypeId)(x:Od)(f:Nat):Kk:=
 JH C s (.n0 A7) fun ti=>match ti.CR with
  |.struct fs=>match nth fs.toList f with
   |some fd=>JH C fd.type (.n0 A7) fun fi=>bif Nat.beq fi.size 0 then (.n0 A7) else .n1 (Arw fd.offset) x
   |none=>(.n0 A7)
  |_=>(.n0 A7)
def ZE(C:AB)(s:TypeId)(x:Od)(f:Nat):Kk:=
 JH C s (.n0 A7) fun ti=>match ti.CR with
  |.struct fs=>match nth fs.toList f with
   |some fd=>JH C fd.type (.n0 A7) fun fi=>.n1 (AjS fd.offset fi.size fi.agg) x
   |none=>(.n0 A7)
  |_=>(.n0 A7)
def Ra(C:AB)(t:TypeId)(x i:Od):Kk:=
 JH C t (.n0 A7) fun ti=>match ti.CR with
  |.array ln e=>JH C e (.n0 A7) fun ei=>.n2 (AnT ln ei.size) x i
  |.slice e=>JH C e (.n0 A7) fun ei=>.n2 (AgN C ei.size) x i
  |_=>(.n0 A7)
def ZH(C:AB)(t:TypeId)(x:Od)(lo hi mx:Option Od):Kk:=
 JH C t (.n0 A7) fun ti=>match ti.CR with
  |.array n e=>JH C e (.n0 A7) fun ei=>.n1 (fun x=>Sq n ei.size x lo hi mx) x
  |.slice e=>JH C e (.n0 A7) fun ei=>bif Nat.beq ei.size 0 then (.n0 A7) else .n1 (fun x=>AgQ C ei.size x lo hi mx) x
  |.pointer a=>JH C a (.n0 A7) fun ai=>match ai.CR with
   |.array n e=>JH C e (.n0 A7) fun ei=>.n1 (fun x=>Sq n ei.size x lo hi mx) x
   |_=>(.n0 A7)
  |_=>(.n0 A7)
def Abn(C:AB)(t:TypeId)(k:V->Kk):Kk:=
 JH C t (.n0 A7) fun ti=>match ti.CR with
  |.map _ e=>JH C e (.n0 A7) fun ei=>match zeroV ei with |some z=>k z|none=>(.n0 A7)
  |_=>(.n0 A7)
def TS(C:AB)(t:TypeId)(k:TI->Kk):Kk:=
 JH C t (.n0 A7) fun ti=>match ti.CR with
  |.slice e=>JH C e (.n0 A7) k
  |_=>(.n0 A7)
def Amz(C:AB)(t:TypeId)(x:Od):Kk:=
 JH C t (.n0 A7) fun ti=>match ti.CR with
  |.slice _=>.n1 Als x
  |.array n _=>.n0 (AaC n)
  |.pointer a=>JH C a (.n0 A7) fun ai=>match ai.CR with |.array n _=>.n0 (AaC n)|_=>(.n0 A7)
  |.map .. =>.n1 Y4 x
  |_=>(.n0 A7)
def Ajv(C:AB)(t:TypeId):Bool:=match C.ty t with |some ti=>(match ti.CR with |.slice _=>true|_=>false)|none=>false
def VA(C:AB)(t:TypeId):Bool:=match C.ty t with |some ti=>(match ti.CR with |.int _=>true|_=>false)|none=>false
def MM(C:AB)(b:Builtin)(ts:List TypeId)(xs:List Od):Kk:=
 match b,ts,xs with
 |.append,[t,t2],[s,x]=>TS C t fun ei=>bif Nat.ble ei.bytes 65536&&Nat.ble 1 ei.size&&Ajv C t2 then .n2 (Y1 C ei.size) s x else bif Nat.ble ei.bytes 65536&&Nat.ble 1 ei.size&&VA C t2 then .n2 (Uq ei.zero ei.size) s x else .n0 A7
 |.len,t::_,[x]=>Amz C t x
 |.delete,t::_,[m,q]=>Yh C t fun ka kc=>.n2 (Y2 C ka kc) m q
 |.max,_,[x,y]=>.n2 (NJ C true) x y
 |.min,_,[x,y]=>.n2 (NJ C false) x y
 |_,_,_=>(.n0 A7)
def ZU(op:BinOp)(f:Bool->Kk):Kk:=
 match op with
 |.eql=>f false
 |.neq=>f true
 |_=>.n0 A7
def Amw(C:AB)(nl:Nat)(op:BinOp)(t:TypeId)(x y:Operand):Kk:=
 JH C t (.n0 A7) fun ti=>
 match ti.CR with
 |.int _=>.n2 (Alq (ZB C op)) (od nl x) (od nl y)
 |.bool=>ZU op fun ne=>.n2 (Y3 ne) (od nl x) (od nl y)
 |.pointer e=>JH C e (.n0 A7) fun ei=>bif Nat.beq ei.size 0 then .n0 A7 else ZU op fun ne=>.n2 (Acg ne) (od nl x) (od nl y)
 |.slice _=>ZU op fun ne=>.n2 (Lb ZT ne) (od nl x) (od nl y)
 |.map .. =>ZU op fun ne=>.n2 (Lb ZS ne) (od nl x) (od nl y)
 |.func .. =>ZU op fun ne=>.n2 (Lb ZR ne) (od nl x) (od nl y)
 |.struct _|.array .. =>match Tu C 8 t with
  |some cs=>ZU op fun ne=>.n2 (QD C ne cs) (od nl x) (od nl y)
  |none=>.n0 A7
 |_=>.n0 A7
def ZG(C:AB)(nl:Nat)(op:Op):Kk:=
 match op with
 |.move x|.assign x=>.n1 Alu (od nl x)
 |.pick c a b=>.n3 AgP (od nl c) (od nl a) (od nl b)
 |.alloc t=>JH C t (.n0 A7) fun ti=>.n0 (Acf (T.ofList ti.zero) (len ti.zero))
 |.box _ x=>.n1 Alr (od nl x)
 |.build t ps=>ZD C nl t ps.toList
 |.buildSlice t ln ps=>Kx C nl t ln ps.toList
 |.load t a=>JH C t (.n0 A7) fun ti=>bif ti.agg then .n1 (Aci C ti.size) (od nl a) else .n1 (Ach C) (od nl a)
 |.store t a x=>JH C t (.n0 A7) fun ti=>.n2 (Acj C ti.size) (od nl a) (od nl x)
 |.nilCheck x=>.n1 AgO (od nl x)
 |.binOp op t x y _=>Amw C nl op t x y
 |.unOp op _ x=>.n1 (AnU op) (od nl x)
 |.convert src dst x=>JH C src (.n0 A7) fun _=>JH C dst (.n0 A7) fun ti=>match ti.CR with |.int k=>.n1 (AaB k) (od nl x)|_=>.n0 A7
 |.makeFunc fn first DD=>match fn,first.toList with |.func f,[]=>.nl (Sn f) (OT nl DD.toList)|_,_=>(.n0 A7)
 |.makeMap _ r=>match r with |none=>.n0 Us|some _=>(.n0 A7)
 |.makeSlice t l c=>TS C t fun ei=>bif Nat.ble ei.bytes 65536 then .n2 (P8 C ei.zero ei.size) (od nl l) (od nl c) else .n0 A7
 |.slice t x lo hi mx=>ZH C t (od nl x) (opt nl lo) (opt nl hi) (opt nl mx)
 |.fieldAddr s x f=>Amy C s (od nl x) f
 |.field s x f=>ZE C s (od nl x) f
 |.indexAddr t x i=>Ra C t (od nl x) (od nl i)
 |.lookup t x q ok=>Yh C t fun ka kc=>Abn C t fun z=>.n2 (Sm C ka kc z ok) (od nl x) (od nl q)
 |.mapUpdate t m q x|.insert t m q x=>Yh C t fun ka kc=>.n3 (Y5 C ka kc) (od nl m) (od nl q) (od nl x)
 |.extract x i=>.n1 (fun x=>Ur x i) (od nl x)
 |.call c=>match c.callee with
  |.value (.func f)=>.nl (VT f) (OT nl c.args.toList)
  |.value f=>.n1l VU (od nl f) (OT nl c.args.toList)
  |.builtin b=>MM C b c.argTypes.toList (OT nl c.args.toList)
  |_=>(.n0 A7)
 |_=>(.n0 A7)
def Wx(want:Bool)(v:AV):Bool:=
 @AV.rec (fun _=>Bool) (fun a=>@A.rec (fun _=>Bool) (fun b=>C6 b want) (fun _ _=>false) (fun _ _=>false) (fun _=>false) (fun _ _=>false) false (fun _ _ _ _=>false) (fun _ _ _ _=>false) false false (fun _=>false) false (fun _ _=>false) (fun _=>false) false false (fun _ _ _=>false) (fun _ _ _ _=>false) (fun _ _ _=>false) (fun _ _ _ _=>false) (fun _=>false) (fun _ _ _=>false) (fun _ _ _=>false) (fun _ _ _ _=>false) (fun _=>false) a) (fun _=>false) (fun _=>false) v
def Jd(nt nl:Nat)(d:Option Tmp):Zy:=
 match d with
 |none=>.no
 |some d=>bif Nat.blt d nt then (bif Nat.blt d nl then .lo d else .tm d) else .bad
def Ox(C:AB)(nt nl:Nat)(all:List Oper)(o:Oper):Opr:=
 match o.guard with
 |none=>.mk none (Jd nt nl o.dst) (ZG C nl o.op)
 |some (j,want)=>match nth all j with
  |some g=>match g.dst with
   |some d=>.mk (some ⟨Dn nl d,want⟩) (Jd nt nl o.dst) (ZG C nl o.op)
   |none=>.bad
  |none=>.bad
def Adb(C:AB)(nt nl:Nat)(all:List Oper)(l:List Oper):List Opr:=@List.rec Oper (fun _=>List Opr) [] (fun o _ r=>Ox C nt nl all o::r) l
def A5(op:Kk)(rec:Rec)(X:Ctx)(k:K)(pt:T AV)(tl:TL)(h:H):OR:=
 @Kk.rec (fun _=>OR) (fun f=>f rec X k pt tl h) (fun f x=>f x rec X k pt tl h) (fun f x y=>f x y rec X k pt tl h) (fun f x y z=>f x y z rec X k pt tl h) (fun f l=>f l rec X k pt tl h) (fun f x l=>f x l rec X k pt tl h) op
def Kc(d:Zy)(go:PK)(pt:T AV)(tl:TL)(v:AV)(h:H):OR:=
 @Zy.rec (fun _=>OR) (go pt tl h) (fun d=>go (T.set pt d v) tl h) (fun d=>go pt (.cons d v tl) h) none d
def Agn(v:AV):Bool:=match v with
 |.one (.sb _)=>false
 |.one (.rc _ _ _)=>false
 |_=>true
def RD(g:Option Gd)(pt:T AV)(tl:TL)(yes no:OR):OR:=
 @Option.rec Gd (fun _=>OR) yes (fun g=>@Gd.rec (fun _=>OR) (fun x want=>ev x pt tl fun v=>@Bool.rec (fun _=>OR) (Dy (Agn v) no) yes (Wx want v)) g) g
def AlS(rec:Rec)(X:Ctx)(o:Opr)(go:PK)(pt:T AV)(tl:TL)(h:H):OR:=
 @Opr.rec (fun _=>OR) (fun g d op=>RD g pt tl (A5 op rec X (Kc d go pt tl) pt tl h) (Kc d go pt tl (.Dh []) h)) none o
def opsL(rec:Rec)(X:Ctx)(marks:List Nat)(l:List Opr):PK:=
 @List.rec Opr (fun _=>PK) (fun pt tl h=>some (.code .norm ⟨pt,tl,marks⟩ h)) (fun o _ go=>AlS rec X o go) l
def Av{α:Type}(f:α->α->Bool)(l:List α):List α->Bool:=
 @List.rec α (fun _=>List α->Bool) (fun m=>@List.rec α (fun _=>Bool) true (fun _ _ _=>false) m)
  (fun a _ r m=>@List.rec α (fun _=>Bool) false (fun b t _=>@Bool.rec (fun _=>Bool) false (r t) (f a b)) m) l
def A.AJ:A->A->Bool
 |.bool a,.bool b=>C6 a b
 |.int k n,.int k' n'=>Nat.beq (Ax k) (Ax k')&&BX n n'
 |.sym k e,.sym k' e'=>Nat.beq (Ax k) (Ax k')&&e.AJ e'
 |.ptr b o,.ptr b' o'=>Nat.beq b b'&&Nat.beq o o'
 |.HB,.HB=>true
 |.slice b o l c,.slice b' o' l' c'=>Nat.beq b b'&&Nat.beq o o'&&Nat.beq l l'&&Nat.beq c c'
 |.KW b o l c,.KW b' o' l' c'=>Nat.beq b b'&&Nat.beq o o'&&Nat.beq l l'&&Nat.beq c c'
 |.B7,.B7=>true
 |.emp,.emp=>true
 |.map r,.map r'=>Nat.beq r r'
 |.Jv,.Jv=>true
 |.KF,.KF=>true
 |.any,.any=>true
 |.Wz b es n,.Wz b' JP n'=>Nat.beq b b'&&Nat.beq es JP&&n.AJ n'
 |.pt b e es c,.pt b' e' JP c'=>Nat.beq b b'&&e.AJ e'&&Nat.beq es JP&&Nat.beq c c'
 |.C2 b es n,.C2 b' JP n'=>Nat.beq b b'&&Nat.beq es JP&&n.AJ n'
 |.Wp b es l n,.Wp b' JP l' n'=>Nat.beq b b'&&Nat.beq es JP&&l.AJ l'&&n.AJ n'
 |.sb e,.sb e'=>e.AJ e'
 |.rc t e c,.rc t' e' c'=>Nat.beq t t'&&e.AJ e'&&Nat.beq c c'
 |.P3 t es n,.P3 t' JP n'=>Nat.beq t t'&&Nat.beq es JP&&n.AJ n'
 |.NB t e es c,.NB t' e' JP c'=>Nat.beq t t'&&e.AJ e'&&Nat.beq es JP&&Nat.beq c c'
 |.fp t,.fp t'=>Nat.beq t t'
 |.Qe l,.Qe l'=>Nat.beq l l'
 |.fn f l,.fn f' l'=>Nat.beq f f'&&Av Nat.beq l l'
 |_,_=>false
def V.AJ:V->V->Bool
 |.one a,.one b=>a.AJ b
 |.agg l,.agg m=>Av A.AJ l m
 |_,_=>false
def AV.AJ:AV->AV->Bool
 |.one a,.one b=>a.AJ b
 |.agg l,.agg m=>Av A.AJ l m
 |.Dh l,.Dh m=>Av V.AJ l m
 |_,_=>false
inductive Cl where
 |p|r|a|e
def MU:Op->Cl
 |.move _|.assign _|.pick .. |.build .. |.nilCheck _|.unOp .. |.convert .. |.makeFunc .. |.fieldAddr .. |.field .. |.indexAddr .. |.index .. |.extract .. =>.p
 |.binOp .. |.load .. |.lookup .. |.slice .. |.entry _=>.r
 |.alloc _|.box .. |.buildSlice .. |.makeSlice .. =>.a
 |_=>.e
def Ant(C:AB)(op:Op):Bool:=match op with |.call c=>(match c.callee with |.value (.func f)=>C.pa f|_=>false)|_=>false
def Mj(C:AB)(op:Op):Cl:=bif Ant C op then .a else MU op
def bit(i:Nat):Nat:=Nat.shiftLeft 1 i
def AU(m i:Nat):Bool:=Nat.beq (Nat.mod (Nat.shiftRight m i) 2) 1
def Ku(e:Edge):Bool:=match e.ground with |.textOnly _=>false|.gcOnly _=>false|_=>true
def orD(o:Option Nat):Nat:=@Option.rec Nat (fun _=>Nat) 0 (fun n=>n) o
def B4(ms:T Nat)(o:Oper):Nat:=
 @List.rec Edge (fun _=>Nat) 0 (fun e _ r=>@Bool.rec (fun _=>Nat) r (Nat.lor (Nat.lor r (bit e.on)) (orD (T.get ms e.on))) (Ku e)) o.after.toList
inductive DC where
 |p
 |r (j m:Nat)
 |a
 |e (p m:Nat)
 |b (l:List Od)
inductive DO where
 |mk (g:Option Gd) (d:Zy) (op:Kk) (c:DC)
 |bad
structure Pn where
 j:Nat
 op:Kk
 pt:T AV
 tl:TL
 v:AV
def Rg(C:AB)(nl:Nat)(op:Op)(j m:Nat):DC:=bif Ant C op then .b (OT nl op.operands.toList) else @Cl.rec (fun _=>DC) .p (.r j m) .a (.e j m) (MU op)
def AiM(C:AB)(nt nl:Nat)(all:List Oper)(j m:Nat)(o:Oper):DO:=@Opr.rec (fun _=>DO) (fun g d op=>.mk g d op (Rg C nl o.op j m)) .bad (Ox C nt nl all o)
def ZN(C:AB)(nt nl:Nat)(all:List Oper)(l:List Oper):Nat->T Nat->List DO:=
 @List.rec Oper (fun _=>Nat->T Nat->List DO) (fun _ _=>[]) (fun o _ r j ms=>AiM C nt nl all j (B4 ms o) o::r (Nat.succ j) (ms.set j (B4 ms o))) l
def Aec(rec:Rec)(X:Ctx)(q:Pn)(h:H)(k:OR):OR:=A5 q.op rec X (fun v _=>Dy (AV.AJ q.v v) k) q.pt q.tl h
def Uy(rec:Rec)(X:Ctx)(l:List Pn)(h:H)(k:OR):OR:=@List.rec Pn (fun _=>OR) k (fun q _ r=>Aec rec X q h r) l
def AeI(rec:Rec)(X:Ctx)(m:Nat)(KG:List (Nat×H))(q:Pn)(k:OR):OR:=
 @List.rec (Nat×H) (fun _=>OR) k (fun x _ r=>@Bool.rec (fun _=>OR) (Aec rec X q x.2 r) k (AU m x.1)) KG
def LB(m:Nat)(l:List Pn):List Pn:=@List.rec Pn (fun _=>List Pn) [] (fun q _ r=>@Bool.rec (fun _=>List Pn) (q::r) r (AU m q.j)) l
abbrev DS:=List (Nat×H)->List Pn->Nat->T AV->TL->H->OR
def Ass(rec:Rec)(X:Ctx)(g:Option Gd)(d:Zy)(op:Kk)(go:DS):DS:=fun KG B8 Dd pt tl h=>
 RD g pt tl (A5 op rec X (Kc d (go KG B8 Dd) pt tl) pt tl h) (Kc d (go KG B8 Dd) pt tl (.Dh []) h)
def Ast(rec:Rec)(X:Ctx)(g:Option Gd)(d:Zy)(op:Kk)(j m:Nat)(go:DS):DS:=fun KG B8 Dd pt tl h=>
 RD g pt tl (A5 op rec X (fun v h=>AeI rec X m KG ⟨j,op,pt,tl,v⟩ (Kc d (go KG (⟨j,op,pt,tl,v⟩::B8) Dd) pt tl v h)) pt tl h) (Kc d (go KG B8 Dd) pt tl (.Dh []) h)
def Asp(rec:Rec)(X:Ctx)(lim:Nat)(g:Option Gd)(d:Zy)(op:Kk)(go:DS):DS:=fun KG B8 Dd pt tl h=>
 RD g pt tl (Dy (Nat.ble (Nat.succ Dd) lim) (A5 op rec X (fun v h'=>Kc d (go KG B8 (Nat.succ Dd)) pt tl v ⟨h'.1,h.2⟩) pt tl ⟨h.1,Dd⟩)) (Kc d (go KG B8 Dd) pt tl (.Dh []) h)
def okC(n:Nat)(a:A):Bool:=match a with |.ptr b _=>Nat.blt b n|.fn _ []=>true|.bool _=>true|.int _ _=>true|.sym _ _=>true|.HB=>true|_=>false
def okA(n:Nat)(v:AV):Bool:=match v with |.one a=>okC n a|_=>false
def AnQ(id:Nat)(c:T A)(n:Nat):Bool:=@Nat.rec (fun _=>Bool) true (fun i r=>@Bool.rec (fun _=>Bool) false r (@Option.rec A (fun _=>Bool) true (fun a=>okC id a) (T.get c i))) n
def okB(id:Nat)(b:Aj):Bool:=match b with |.cells c n _ none=>AnQ id c n|_=>false
def Acb(n:Nat)(l:List AV):Bool:=@List.rec AV (fun _=>Bool) true (fun v _ r=>@Bool.rec (fun _=>Bool) false r (okA n v)) l
def AqV(n:Nat)(v:AV):Bool:=match v with |.one (.slice b _ _ _)=>Nat.beq b n|_=>false
def Asq(rec:Rec)(X:Ctx)(lim:Nat)(g:Option Gd)(d:Zy)(op:Kk)(l:List Od)(go:DS):DS:=fun KG B8 Dd pt tl h=>
 RD g pt tl (Dy (Nat.ble (Nat.succ Dd) lim) (JQ l pt tl fun us=>Dy (Acb Dd us) (A5 op rec X (fun v h'=>Dy (AqV Dd v) (Dy (Nat.ble (Nat.succ Dd) h'.2) (BS (T.get h'.1 Dd) fun AE=>Dy (okB (Nat.succ Dd) AE) (
  Kc d (go KG B8 (Nat.succ Dd)) pt tl v ⟨T.set h.1 Dd AE,h.2⟩)))) pt tl ⟨.nil,Dd⟩))) (Kc d (go KG B8 Dd) pt tl (.Dh []) h)
def Asr(rec:Rec)(X:Ctx)(g:Option Gd)(d:Zy)(op:Kk)(p m:Nat)(go:DS):DS:=fun KG B8 Dd pt tl h=>
 Uy rec X B8 h (RD g pt tl (A5 op rec X (Kc d (go ((p,h)::KG) (LB m B8) Dd) pt tl) pt tl h) (Kc d (go ((p,h)::KG) (LB m B8) Dd) pt tl (.Dh []) h))
def AlR(rec:Rec)(X:Ctx)(lim:Nat)(o:DO)(go:DS):DS:=
 @DO.rec (fun _=>DS) (fun g d op c=>@DC.rec (fun _=>DS) (Ass rec X g d op go) (fun j m=>Ast rec X g d op j m go) (Asp rec X lim g d op go) (fun p m=>Asr rec X g d op p m go) (fun l=>Asq rec X lim g d op l go) c) (fun _ _ _ _ _ _=>none) o
def AgV(rec:Rec)(X:Ctx)(marks:List Nat)(lim:Nat)(l:List DO):DS:=
 @List.rec DO (fun _=>DS) (fun _ B8 _ pt tl h=>Uy rec X B8 h (some (.code .norm ⟨pt,tl,marks⟩ h))) (fun o _ go=>AlR rec X lim o go) l
def UY(h:H)(n id:Nat)(k:OR):OR:=@Nat.rec (fun _=>Nat->OR) (fun _=>k) (fun _ r id=>@Option.rec Aj (fun _=>OR) (r (Nat.succ id)) (fun _=>none) (T.get h.1 id)) n id
def O4(C:AB)(l:List Oper):Nat:=@List.rec Oper (fun _=>Nat) 0 (fun o _ r=>@Cl.rec (fun _=>Nat) r r (Nat.succ r) r (Mj C o.op)) l
def AoB(x:Operand):Nat:=match x with |.tmp t=>bit t|_=>0
def orL(l:List Nat):Nat:=@List.rec Nat (fun _=>Nat) 0 (fun x _ r=>Nat.lor x r) l
def Ji(o:Oper):Nat:=match o.dst with |some t=>bit t|none=>0
def Aad(all:List Oper)(o:Oper):Nat:=match o.guard with |none=>0 |some (j,_)=>match nth all j with |some g=>Ji g|none=>0
def H7(all:List Oper)(o:Oper):Nat:=Nat.lor (Aad all o) (orL (o.op.operands.toList.map AoB))
def within(a b:Nat):Bool:=Nat.beq (Nat.land a b) a
def IZ(a b:Nat):Bool:=Nat.beq (Nat.land a b) 0
def AfF(j:Nat)(l:List Edge):Bool:=@List.rec Edge (fun _=>Bool) true (fun e _ r=>@Bool.rec (fun _=>Bool) r (@Bool.rec (fun _=>Bool) false r (Nat.blt e.on j)) (Ku e)) l
def Sr(m w n:Nat)(prev:List (Nat×Nat×Nat)):Bool:=
 @List.rec (Nat×Nat×Nat) (fun _=>Bool) true (fun x _ r=>@Bool.rec (fun _=>Bool) (@Bool.rec (fun _=>Bool) false r (AU m x.1)) r (IZ x.2.1 (Nat.lor n w)&&IZ w x.2.2)) prev
def inE(c:Cl)(em am m:Nat):Bool:=@Cl.rec (fun _=>Bool) true true true (within em m&&within am m) c
def Apn(c:Cl)(em j:Nat):Nat:=@Cl.rec (fun _=>Nat) em em em (Nat.lor em (bit j)) c
def Apl(c:Cl)(am j:Nat):Nat:=@Cl.rec (fun _=>Nat) am am (Nat.lor am (bit j)) am c
def Am8(C:AB)(all:List Oper)(l:List Oper):Nat->T Nat->Nat->Nat->List (Nat×Nat×Nat)->Bool:=
 @List.rec Oper (fun _=>Nat->T Nat->Nat->Nat->List (Nat×Nat×Nat)->Bool) (fun _ _ _ _ _=>true) (fun o _ r j ms em am prev=>
  AfF j o.after.toList&&(inE (Mj C o.op) em am (B4 ms o)&&(Sr (B4 ms o) (Ji o) (H7 all o) prev&&
   r (Nat.succ j) (ms.set j (B4 ms o)) (Apn (Mj C o.op) em j) (Apl (Mj C o.op) am j) ((j,Ji o,H7 all o)::prev)))) l
def AaT(C:AB)(rec:Rec)(X:Ctx)(l:List Oper)(fr:FR)(h:H):OR:=
 Dy (Am8 C l l 0 .nil 0 0 []) (UY h (O4 C l) h.2 (AgV rec X fr.marks (Nat.add h.2 (O4 C l)) (ZN C X.nt X.nl l l 0 .nil) [] [] h.2 fr.pt .nil ⟨h.1,Nat.add h.2 (O4 C l)⟩))
def Lk(tmps:T AV)(ps:List Tmp)(vs:List AV):T AV:=
 @List.rec Tmp (fun _=>List AV->T AV->T AV) (fun _ m=>m) (fun t _ r vs m=>@List.rec AV (fun _=>T AV) m (fun v vs _=>r vs (m.set t v)) vs) ps vs tmps
def Ul(h:H)(l:Nat)(k:I1->OR):OR:=
 @Option.rec Aj (fun _=>OR) none (fun b=>@Aj.rec (fun _=>OR) (fun _ _ _ _=>none) (fun _ _=>none) (fun _ _ _ _=>none) k (fun _=>none) (fun _ _ _=>none) (fun _ _ _ _=>none) (fun _ _=>none) none (fun _=>none) b) (T.get h.1 l)
def Xh(r:OR)(k:Out->FR->H->OR):OR:=@Option.rec Rs (fun _=>OR) none (fun r=>@Rs.rec (fun _=>OR) k (fun _ _=>none) r) r
def GY(r:OR)(k:FR->H->OR):OR:=
 Xh r fun o fr h=>@Out.rec (fun _=>OR) (k fr h) (fun id=>some (.code (.exit id) fr h)) (some (.code .ret fr h)) o
def Ac8(id:Nat)(r:OR):OR:=
 Xh r fun o fr h=>@Out.rec (fun _=>OR) (some (.code .norm fr h)) (fun N8=>@Bool.rec (fun _=>OR) (some (.code (.exit N8) fr h)) (some (.code .norm fr h)) (Nat.beq id N8)) (some (.code .ret fr h)) o
def AhB(rec:Rec)(X:Ctx)(a b:Code)(fr:FR)(h:H)(v:AV):OR:=AeO v fun t=>@Bool.rec (fun _=>OR) (rec X (.code b fr) h) (rec X (.code a fr) h) t
def VW(j:Option Jp)(fr:FR)(h:H):OR:=
 match j with
 |none=>some (.code .norm fr h)
 |some .ret=>some (.code .ret fr h)
 |some (.exit id)=>some (.code (.exit id) fr h)
def Xo(l:Nat)(fr:FR)(h:H)(r:I1):OR:=
 match r.st with
 |.busy=>none
 |_=>VW r.B8 fr (h.put l (.loop {r with st:=.exhausted}))
def SR(rec:Rec)(X:Ctx)(fr:FR)(params:List Tmp)(assign body:Code)(g:FuncId)(DD:List Nat)(d:Nat)(h:H):OR:=
 AhW (rec X (.call g (.one (.Qe h.2)::Vj DD)) (h.new (.loop {st:=.ready,B8:=none,fn:=X.fn,tmps:=fr.pt,params,assign,body,defs:=d})))
  fun _ h'=>Ul h' h.2 fun r=>Xo h.2 fr h' r
def Wr(rec:Rec)(X:Ctx)(fr:FR)(h:H)(params:List Tmp)(assign body:Code)(f:A):OR:=
 match f with
 |.fn g DD=>
  match X.round with
  |none=>SR rec X ⟨fr.pt,.nil,h.2::fr.marks⟩ params assign body g DD h.2 (h.new (.defs true))
  |some r=>Ul h r fun l=>SR rec X ⟨fr.pt,.nil,fr.marks⟩ params assign body g DD l.defs h
 |_=>none
def Jt(c:Code):Nat:=match c with
 |.region n _ _=>n
 |.seq a _=>Jt a
 |.block _ a=>Jt a
 |.scope a=>Jt a
 |.cond _ a _=>Jt a
 |_=>0
def Ao3(C:AB)(rec:Rec)(X:Ctx)(b:Code)(fr:FR)(h:H)(r:OR):OR:=
 @Option.rec HU (fun _=>OR) r (fun s=>@Bool.rec (fun _=>OR) r (GY (rec X (.code b (s.fin fr h).1) (s.fin fr h).2) fun fr h=>rec X (.code (.loop b) fr) h) (s.start fr h&&s.run X.fn X.nt X.nl X.round b)) (C.lp X.fn (Jt b))
def AaS(C:AB)(rec:Rec)(X:Ctx)(c:Code)(fr:FR)(h:H):OR:=
 match c with
 |.skip|.label _=>some (.code .norm fr h)
 |.region _ ops draw=>bif draw then AaT C rec X ops.toList fr h else opsL rec X fr.marks (Adb C X.nt X.nl ops.toList ops.toList) fr.pt .nil h
 |.seq a b=>GY (rec X (.code a fr) h) fun fr h=>rec X (.code b fr) h
 |.cond c a b=>ev (od X.nl c) fr.pt fr.tl (AhB rec X a b fr h)
 |.block id b=>Ac8 id (rec X (.code b fr) h)
 |.loop b=>Ao3 C rec X b fr h (GY (rec X (.code b fr) h) fun fr h=>rec X (.code (.loop b) fr) h)
 |.scope b=>rec X (.code b fr) h
 |.exit id=>some (.code (.exit id) fr h)
 |.ret=>some (.code .ret fr h)
 |.rangeFunc f params assign body=>ev (od X.nl f) fr.pt fr.tl fun f=>DI f (Wr rec X fr h params.toList assign body)
 |_=>none
def Sf(h:H)(m:Nat)(r:H->OR):OR:=
 match h.get m with
 |some (.defs true)=>r (h.put m (.defs false))
 |_=>none
def Lo(l:List Nat)(h:H)(k:H->OR):OR:=@List.rec Nat (fun _=>H->OR) k (fun m _ r h=>Sf h m r) l h
def Wm(C:AB)(nl:Nat)(fr:FR)(h:H)(r:ResultVar)(k:AV->OR):OR:=
 match r with
 |.tmp t=>ev (Dn nl t) fr.pt fr.tl k
 |.cell a t=>ev (Dn nl a) fr.pt fr.tl fun p=>YD p fun b off=>JH C t none fun ti=>
  @Bool.rec (fun _=>OR) (h.YH b off fun a=>k (.one a)) (h.KK b off ti.size fun l=>k (.agg l)) ti.agg
def NU(C:AB)(nl:Nat)(fr:FR)(h:H)(l:List ResultVar)(k:List V->OR):OR:=
 @List.rec ResultVar (fun _=>(List V->OR)->OR) (fun k=>k []) (fun x _ r k=>Wm C nl fr h x fun v=>vK v fun v=>r fun vs=>k (v::vs)) l k
def Aog(vs:List V):AV:=
 match vs with
 | [v]=>v.av
 |vs=>.Dh vs
def AlP(C:AB)(fi:FI)(o:Out)(fr:FR)(h:H):OR:=
 match o with
 |.exit _=>none
 |_=>Lo fr.marks h fun h=>NU C fi.nl fr h fi.results fun vs=>some (.val (Aog vs) h)
def Wq(C:AB)(rec:Rec)(f:FuncId)(args:List AV)(h:H)(fi:FI):OR:=
 Xh (rec ⟨f,fi.nt,fi.nl,none⟩ (.code fi.body ⟨T.ofList args,.nil,[]⟩) h) (AlP C fi)
def Ao1(C:AB)(rec:Rec)(f:FuncId)(args:List AV)(h:H):OR:=
 @Option.rec (AV×H) (fun _=>OR) (@Option.rec FI (fun _=>OR) none (Wq C rec f args h) (C.fu f)) (fun r=>some (.val r.1 r.2)) (C.ext f args h)
def Adq(l:Nat)(o:Out)(h:H)(r:I1):OR:=
 match o with
 |.norm=>some (.val (.one (.bool true)) (h.put l (.loop {r with st:=.ready,B8:=none})))
 |.ret=>some (.val (.one (.bool false)) (h.put l (.loop {r with st:=.done,B8:=some .ret})))
 |.exit id=>some (.val (.one (.bool false)) (h.put l (.loop {r with st:=.done,B8:=some (.exit id)})))
def WT(rec:Rec)(X:Ctx)(l:Nat)(body:Code)(fr:FR)(h:H)(r:I1):OR:=
 match r.st with
 |.ready=>Xh (rec X (.code body fr) (h.put l (.loop {r with st:=.busy}))) fun o _ h=>Ul h l (Adq l o h)
 |_=>none
def AeF(l:List Nat)(n:Nat):Bool:=@List.rec Nat (fun _=>Bool) true (fun x _ r=>@Bool.rec (fun _=>Bool) false r (Nat.blt x n)) l
def Ao5(rec:Rec)(l:Nat)(args:List AV)(h:H)(r:I1)(fi:FI):OR:=
 Dy (Nat.beq (len args) (len r.params)) (Dy (AeF r.params fi.nt)
  (GY (rec ⟨r.fn,fi.nt,fi.nl,some l⟩ (.code r.assign ⟨Lk r.tmps r.params args,.nil,[]⟩) h) fun fr h=>Ul h l (WT rec ⟨r.fn,fi.nt,fi.nl,some l⟩ l r.body fr h)))
def AlQ(C:AB)(rec:Rec)(l:Nat)(args:List AV)(h:H):OR:=Ul h l fun r=>BS (C.fu r.fn) (Ao5 rec l args h r)
def Afz(C:AB)(rec:Rec)(X:Ctx)(t:Task)(h:H):OR:=
 @Task.rec (fun _=>OR) (fun c fr=>AaS C rec X c fr h) (fun f args=>Ao1 C rec f args h) (fun l args=>AlQ C rec l args h) t
def eval(C:AB)(n:Nat):Rec:=@Nat.rec (fun _=>Rec) (fun _ _ _=>none) (fun _ rec=>Afz C rec) n
end Eng
end
namespace Eng
open Go
section
variable {α:Type}
theorem T.Gv(v:Option α)(l r:T α)(m:Nat):T.get (.node v l r) (m+1)=if m % 2=0 then T.get l (m / 2) else T.get r (m / 2):=by
 show @Bool.rec _ _ _ (Nat.beq (Nat.mod m 2) 0)=_;have e:Nat.mod m 2=m % 2:=rfl;rw[e]
 by_cases h:m % 2=0
 ·rw[if_pos h,h];rfl
 ·rw[if_neg h];have:Nat.beq (m % 2) 0=false:=by
   cases hb:Nat.beq (m % 2) 0 with
   |false=>rfl
   |true=>exact absurd (Nat.eq_of_beq_eq_true hb) h
  rw[this];rfl
theorem T.T4(f m:Nat)(x:α):T.YW (f+1) .nil (m+1) x=if m % 2=0 then .node none (T.YW f .nil (m / 2) x) .nil else .node none .nil (T.YW f .nil (m / 2) x):=by
 show @Bool.rec _ _ _ (Nat.beq (Nat.mod m 2) 0)=_;have e:Nat.mod m 2=m % 2:=rfl;rw[e]
 by_cases h:m % 2=0
 ·rw[if_pos h,h];rfl
 ·rw[if_neg h];have:Nat.beq (m % 2) 0=false:=by
   cases hb:Nat.beq (m % 2) 0 with
   |false=>rfl
   |true=>exact absurd (Nat.eq_of_beq_eq_true hb) h
  rw[this];rfl
theorem T.SF(f m:Nat)(v:Option α)(a b:T α)(x:α):T.YW (f+1) (.node v a b) (m+1) x=if m % 2=0 then .node v (T.YW f a (m / 2) x) b else .node v a (T.YW f b (m / 2) x):=by
 show @Bool.rec _ _ _ (Nat.beq (Nat.mod m 2) 0)=_;have e:Nat.mod m 2=m % 2:=rfl;rw[e]
 by_cases h:m % 2=0
 ·rw[if_pos h,h];rfl
 ·rw[if_neg h];have:Nat.beq (m % 2) 0=false:=by
   cases hb:Nat.beq (m % 2) 0 with
   |false=>rfl
   |true=>exact absurd (Nat.eq_of_beq_eq_true hb) h
  rw[this];rfl
theorem T.get_nil(n:Nat):T.get (.nil:T α) n=none:=rfl
theorem T.AfH(v:Option α)(l r:T α):T.get (.node v l r) 0=v:=rfl
theorem T.AfG(f:Nat):∀(t:T α) (n:Nat) (x:α) (m:Nat) (y:α),T.get (T.YW f t n x) m=some y->(m=n/\y=x)\/(m ≠ n/\T.get t m=some y):=by
 induction f with
 |zero=>intro t n x m y h;exact absurd h (by show (none:Option α) ≠ _;simp)
 |succ f ih=>
  intro t n x m y h;cases n with
  |zero=>
   cases m with
   |zero=>
    left;refine⟨rfl,?_⟩;cases t<;>exact (Option.some.inj h).symm
   |succ m=>
    right;refine⟨by simp,?_⟩;cases t with
    |nil=>
     have:T.get (.node (some x) .nil .nil:T α) (m+1)=some y:=h;rw[T.Gv]at this;simp[T.get_nil]at this
    |node v a b=>
     have:T.get (.node (some x) a b:T α) (m+1)=some y:=h;rw[T.Gv]at this ⊢;exact this
  |succ n=>
   cases t with
   |nil=>
    rw[T.T4]at h;cases m with
    |zero=>split at h<;>exact absurd h (by simp[T.AfH])
    |succ m=>
     by_cases hp:n % 2=0
     ·rw[if_pos hp,T.Gv]at h
      by_cases hq:m % 2=0
      ·rw[if_pos hq]at h;rcases ih _ _ _ _ _ h with ⟨e,ey⟩|⟨_,e⟩
       ·left;exact⟨by omega,ey⟩
       ·simp[T.get_nil]at e
      ·rw[if_neg hq]at h;simp[T.get_nil]at h
     ·rw[if_neg hp,T.Gv]at h
      by_cases hq:m % 2=0
      ·rw[if_pos hq]at h;simp[T.get_nil]at h
      ·rw[if_neg hq]at h;rcases ih _ _ _ _ _ h with ⟨e,ey⟩|⟨_,e⟩
       ·left;exact⟨by omega,ey⟩
       ·simp[T.get_nil]at e
   |node v a b=>
    rw[T.SF]at h;cases m with
    |zero=>
     right;refine⟨by simp,?_⟩;split at h<;>exact h
    |succ m=>
     by_cases hp:n % 2=0
     ·rw[if_pos hp,T.Gv]at h;rw[T.Gv]
      by_cases hq:m % 2=0
      ·rw[if_pos hq]at h ⊢;rcases ih _ _ _ _ _ h with ⟨e,ey⟩|⟨e1,e⟩
       ·left;exact⟨by omega,ey⟩
       ·right;exact⟨by omega,e⟩
      ·rw[if_neg hq]at h ⊢;right;exact⟨by omega,h⟩
     ·rw[if_neg hp,T.Gv]at h;rw[T.Gv]
      by_cases hq:m % 2=0
      ·rw[if_pos hq]at h ⊢;right;exact⟨by omega,h⟩
      ·rw[if_neg hq]at h ⊢;rcases ih _ _ _ _ _ h with ⟨e,ey⟩|⟨e1,e⟩
       ·left;exact⟨by omega,ey⟩
       ·right;exact⟨by omega,e⟩
theorem T.DT{t:T α}{n:Nat}{x:α}{m:Nat}{y:α}(h:T.get (T.set t n x) m=some y):(m=n/\y=x)\/(m ≠ n/\T.get t m=some y):=T.AfG 40 t n x m y h
theorem T.AaQ(t:T α)(off:Nat):T.slice t off 0=some []:=rfl
theorem T.AaP(t:T α)(off n:Nat)(l:List α):T.slice t off (n+1)=some l↔∃x xs,l=x::xs/\T.get t off=some x/\T.slice t (off+1) n=some xs:=by
 have e:T.slice t off (n+1)=@Option.rec α (fun _=>Option (List α)) none (fun x=>@Option.rec (List α) (fun _=>Option (List α)) none (fun xs=>some (x::xs)) (T.slice t (off+1) n)) (T.get t off):=rfl;rw[e];cases h:T.get t off with
 |none=>simp
 |some x=>
  cases h2:T.slice t (off+1) n with
  |none=>simp
  |some xs=>simp;exact⟨fun e=>e.symm,fun e=>e.symm⟩
theorem T.Ll(n:Nat):∀(t:T α) (off:Nat) (l:List α),T.slice t off n=some l->l.length=n/\∀i x,l[i]? =some x->T.get t (off+i)=some x:=by
 induction n with
 |zero=>intro t off l h;rw[T.AaQ]at h;cases h;simp
 |succ n ih=>
  intro t off l h;obtain⟨x,xs,rfl,hx,hs⟩:=(T.AaP t off n l).1 h;obtain⟨h1,h2⟩:=ih _ _ _ hs;refine⟨by simp[h1],?_⟩;intro i y hy;cases i with
  |zero=>simp at hy;subst hy;exact hx
  |succ i=>have:=h2 i y (by simpa using hy);rwa [show off+(i+1)=off+1+i by omega]
theorem T.AdN(t:T α)(off:Nat)(x:α)(l:List α):T.over t off (x::l)=T.over (t.set off x) (off+1) l:=rfl
theorem T.X2(l:List α):∀(t:T α) (off m:Nat) (y:α),T.get (T.over t off l) m=some y->(off<=m/\m<off+l.length/\l[m-off]? =some y)\/(¬(off<=m/\m<off+l.length)/\T.get t m=some y):=by
 induction l with
 |nil=>intro t off m y h;right;exact⟨by simp,h⟩
 |cons x l ih=>
  intro t off m y h;rw[T.AdN]at h;rcases ih _ _ _ _ h with ⟨h1,h2,h3⟩|⟨h1,h2⟩
  ·left;refine⟨by omega,by simp;omega,?_⟩;rw[show m-off=(m-(off+1))+1 by omega];simpa using h3
  ·rcases T.DT h2 with ⟨e,ey⟩|⟨e,e2⟩
   ·left;subst e;subst ey;exact⟨Nat.le_refl _,by simp⟩
   ·right;exact⟨by simp at *;omega,e2⟩
theorem T.CZ{l:List α}{m:Nat}{y:α}(h:T.get (T.ofList l) m=some y):l[m]? =some y:=by
 rcases T.X2 l .nil 0 m y h with ⟨_,_,h3⟩|⟨_,h2⟩
 ·simpa using h3
 ·simp[T.get_nil]at h2
theorem HC(l:List α):∀i,nth l i=l[i]? :=by
 induction l with
 |nil=>intro i;rfl
 |cons x l ih=>intro i;cases i with
  |zero=>rfl
  |succ i=>exact ih i
theorem E8(l:List α):len l=l.length:=by
 induction l with
 |nil=>rfl
 |cons x l ih=>show Nat.succ (len l)=_;rw[ih];rfl
theorem Me(a b:List α):app a b=a++b:=by
 induction a with
 |nil=>rfl
 |cons x l ih=>show x::app l b=_;rw[ih];rfl
theorem SX(l:List α):∀n,PE l n=l.take n:=by
 induction l with
 |nil=>intro n;simp[PE]
 |cons x l ih=>intro n;cases n with
  |zero=>rfl
  |succ n=>show x::PE l n=_;rw[ih];rfl
theorem Rj(n:Nat):∀l:List α,Ri n l=l.drop n:=by
 induction n with
 |zero=>intro l;rfl
 |succ n ih=>intro l;cases l with
  |nil=>rfl
  |cons x l=>show Ri n l=_;rw[ih];rfl
theorem Wk(z:List α):C0 z 0=[]:=rfl
theorem Jz(z:List α)(n:Nat):C0 z (n+1)=z++C0 z n:=by show app z _=_;rw[Me];rfl
theorem Cg(z:List α)(n:Nat):(C0 z n).length=n*z.length:=by
 induction n with
 |zero=>simp[Wk]
 |succ n ih=>rw[Jz,List.length_append,ih,Nat.succ_mul];omega
theorem AaG(v:α)(vs:List α)(x:α)(z:List α):Y7 (v::vs) (x::z)=v::Y7 vs z:=rfl
theorem Aha(vs:List α):∀z:List α,vs.length<=z.length->Y7 vs z=vs++z.drop vs.length:=by
 induction vs with
 |nil=>intro z _;rfl
 |cons v vs ih=>intro z h;cases z with
  |nil=>simp at h
  |cons x z=>rw[AaG,ih z (by simpa using h)];rfl
theorem Pe(vs:List α)(off:Nat):∀z:List α,off+vs.length<=z.length->JF vs z off=z.take off++vs++z.drop (off+vs.length):=by
 induction off with
 |zero=>intro z h;show Y7 vs z=_;rw[Aha vs z (by simpa using h)];simp
 |succ n ih=>intro z h;cases z with
  |nil=>simp at h
  |cons x z=>
   show x::JF vs z n=_;rw[ih z (by simp at h;omega)];simp[Nat.succ_add]
theorem Jh{a:Option α}{l:Option (List α)}{r:List α}(h:Pp a l=some r):∃x xs,a=some x/\l=some xs/\r=x::xs:=by
 cases a with
 |none=>exact absurd h (by show (none:Option (List α)) ≠ _;simp)
 |some x=>cases l with
  |none=>exact absurd h (by show (none:Option (List α)) ≠ _;simp)
  |some xs=>exact⟨x,xs,rfl,rfl,(Option.some.inj h).symm⟩
end
theorem Ar{α:Type}{o:Option α}{k:α->OR}{r:Rs}(h:BS o k=some r):∃x,o=some x/\k x=some r:=by
 cases o with
 |none=>exact absurd h (by show (none:OR) ≠ _;simp)
 |some x=>exact⟨x,rfl,h⟩
theorem Ap{b:Bool}{k:OR}{r:Rs}(h:Dy b k=some r):b=true/\k=some r:=by
 cases b with
 |false=>exact absurd h (by show (none:OR) ≠ _;simp)
 |true=>exact⟨rfl,h⟩
theorem AY{v:AV}{k:A->OR}{r:Rs}(h:DI v k=some r):∃a,v=.one a/\k a=some r:=by
 cases v with
 |one a=>exact⟨a,rfl,h⟩
 |agg l=>exact absurd h (by show (none:OR) ≠ _;simp)
 |Dh l=>exact absurd h (by show (none:OR) ≠ _;simp)
theorem FV{v:AV}{k:Nat->Nat->OR}{r:Rs}(h:YD v k=some r):∃b o,v=.one (.ptr b o)/\k b o=some r:=by
 cases v with
 |one a=>cases a<;>first|exact⟨_,_,rfl,h⟩|exact absurd h (by show (none:OR) ≠ _;simp)
 |agg l=>exact absurd h (by show (none:OR) ≠ _;simp)
 |Dh l=>exact absurd h (by show (none:OR) ≠ _;simp)
theorem QX{v:AV}{k:Bool->OR}{r:Rs}(h:AeO v k=some r):∃b,v=.one (.bool b)/\k b=some r:=by
 cases v with
 |one a=>cases a<;>first|exact⟨_,rfl,h⟩|exact absurd h (by show (none:OR) ≠ _;simp)
 |agg l=>exact absurd h (by show (none:OR) ≠ _;simp)
 |Dh l=>exact absurd h (by show (none:OR) ≠ _;simp)
def AV.cl:AV->Option (List A)
 |.one a=>some [a]
 |.agg l=>some l
 |.Dh _=>none
theorem Hc{v:AV}{k:List A->OR}{r:Rs}(h:cellsOf v k=some r):∃l,v.cl=some l/\k l=some r:=by
 cases v with
 |one a=>exact⟨_,rfl,h⟩
 |agg l=>exact⟨_,rfl,h⟩
 |Dh l=>exact absurd h (by show (none:OR) ≠ _;simp)
theorem Ho{v:AV}{k:V->OR}{r:Rs}(h:vK v k=some r):∃x:V,v=x.av/\k x=some r:=by
 cases v with
 |one a=>exact⟨.one a,rfl,h⟩
 |agg l=>exact⟨.agg l,rfl,h⟩
 |Dh l=>exact absurd h (by show (none:OR) ≠ _;simp)
theorem AcS{v:AV}{k:List A->OR}{r:Rs}(h:Apr v k=some r):∃l,v=.agg l/\k l=some r:=by
 cases v with
 |agg l=>exact⟨_,rfl,h⟩
 |one a=>exact absurd h (by show (none:OR) ≠ _;simp)
 |Dh l=>exact absurd h (by show (none:OR) ≠ _;simp)
theorem EL{v:AV}{k:Nat->OR}{r:Rs}(h:VL v k=some r):∃q n,v=.one (.int q (.ofNat n))/\k n=some r:=by
 obtain⟨a,rfl,h⟩:=AY h;obtain⟨n,hn,h⟩:=Ar h;cases a with
 |int q z=>
  cases z with
  |ofNat z=>simp[AjL]at hn;subst hn;exact⟨_,_,rfl,h⟩
  |negSucc z=>simp[AjL]at hn
 |_=>simp[AjL]at hn
theorem Gs{b:Aj}{k:T A->Nat->Bool->Option Nat->OR}{r:Rs}(h:Kz b k=some r):∃c n f s,b=.cells c n f s/\k c n f s=some r:=by
 cases b<;>first|exact⟨_,_,_,_,rfl,h⟩|exact absurd h (by show (none:OR) ≠ _;simp)
def TL.find(t:Nat):TL->Option AV
 |.nil=>none
 |.cons d v r=>if d=t then some v else r.find t
def Od.val(x:Od)(pt:T AV)(tl:TL):Option AV:=
 match x with
 |.lo t=>T.get pt t
 |.tm t=>tl.find t
 |.c v=>some v
 |.bad=>none
theorem AaX{t:Nat}{k:AV->OR}{r:Rs}:∀{tl:TL},Zm t tl k=some r->∃v,tl.find t=some v/\k v=some r:=by
 intro tl
 induction tl with
 |nil=>intro h;exact absurd h (by show (none:OR) ≠ _;simp)
 |cons d v u ih=>
  intro h;have h':@Bool.rec (fun _=>OR) (Zm t u k) (k v) (Nat.beq d t)=some r:=h;cases hb:Nat.beq d t with
  |true=>
   rw[hb]at h';exact⟨v,by simp[TL.find,Nat.eq_of_beq_eq_true hb],h'⟩
  |false=>
   rw[hb]at h';obtain⟨w,hw,hk⟩:=ih h';refine⟨w,?_,hk⟩;have:d ≠ t:=by intro e;subst e;simp at hb
   simp[TL.find,this,hw]
theorem Aq{x:Od}{pt:T AV}{tl:TL}{k:AV->OR}{r:Rs}(h:ev x pt tl k=some r):∃v,x.val pt tl=some v/\k v=some r:=by
 cases x with
 |lo t=>exact Ar (o:=T.get pt t) h
 |tm t=>exact AaX h
 |c v=>exact⟨v,rfl,h⟩
 |bad=>exact absurd h (by show (none:OR) ≠ _;simp)
def M6(pt:T AV)(tl:TL):List Od->Option (List AV)
 | []=>some []
 |x::xs=>match x.val pt tl,M6 pt tl xs with
  |some v,some vs=>some (v::vs)
  |_,_=>none
theorem Jk{pt:T AV}{tl:TL}{r:Rs}:∀{l:List Od} {k:List AV->OR},JQ l pt tl k=some r->∃vs,M6 pt tl l=some vs/\k vs=some r:=by
 intro l
 induction l with
 |nil=>intro k h;exact⟨[],rfl,h⟩
 |cons x xs ih=>
  intro k h;obtain⟨v,hv,h⟩:=Aq (show ev x pt tl (fun v=>JQ xs pt tl fun vs=>k (v::vs))=some r from h);obtain⟨vs,EU,h⟩:=ih h;exact⟨v::vs,by simp[M6,hv,EU],h⟩
end Eng
end
