/- Facts that contracts tell, the rules by which some follow from others, and the kinds of structures. No conditions beside those in its theorems. -/
import Derived.Test.YtijplfaplkkpcaaGreatE18
import Derived.Test.YtijplfaplkkpcaaGreatE14
set_option linter.unusedVariables false
set_option linter.unusedSimpArgs false
set_option linter.unusedSectionVars false
set_option linter.constructorNameAsVariable false
set_option maxRecDepth 100000
noncomputable section
namespace Eng
open Go Go.RowKit
def TV:Nat->List E->E
 | 0,_=>.lit 0
 |f+1,l=>match l with
  | []=>.lit 0
  | [a]=>a
  |l=>.bin .lss .i64 (TV f (l.take (l.length / 2))) (TV f (l.drop (l.length / 2)))
def BO(t:Nat):E:=.cell t (.lit 0) 0
def mp'(t:Nat):E:=.Bd t (.lit 0) 0
def AG(g:Nat)(ns:List E)(rs:List Nat:=[])(ms:List Nat:=[])(bs:List Nat:=[]):CF:=
 ⟨.add,.bin .lss .i64 (TV 12 ns) (.bin .lss .i64 (TV 12 (rs.map BO)) (.bin .lss .i64 (TV 12 (ms.map mp')) (TV 12 (bs.map BO)))),.lit (.ofNat (g+10000*ns.length+1000000*rs.length+100000000*ms.length+10000000000*bs.length)),false⟩
def xv(i:Nat):E:=.var i
def Iv(e:E):E:=.bin .add .i64 e (.lit 1)
def rlA:List A0:=[
 {cf:=[],Aw:=AG 1 [.lit 0,xv 0] [0]},
 {cf:=[AG 1 [xv 0,xv 1] [0],⟨.eql,xv 1,.cell 0 (xv 0) 0,false⟩,⟨.geq,xv 0,.lit 0,true⟩,⟨.leq,xv 0,.lit 65535,true⟩],Aw:=AG 1 [Iv (xv 0),xv 1] [0]},
 {cf:=[AG 1 [xv 2,xv 1] [0],⟨.leq,xv 0,xv 2,true⟩],Aw:=AG 1 [xv 0,xv 1] [0]},
 {cf:=[⟨.leq,xv 0,.lit 0,true⟩],Aw:=AG 1 [xv 0,xv 1] [0]}]
def qv:List E:=(List.range 8).map .var
def qr:List Nat:=List.range 8
def ArL(k:Nat):A0:={cf:=[AG 4 (xv 9::xv 8::qv) qr,⟨.eql,xv 9,.lit (.ofNat k),true⟩,AG 1 [xv k,xv 8] [k]],Aw:=AG 4 (.lit ((k:Int)-1)::xv 8::qv) qr}
def ArM(k:Nat):A0:={cf:=[⟨.eql,.cell k (xv 9) 0,xv 8,true⟩,⟨.geq,xv 9,.lit 0,true⟩,⟨.lss,xv 9,xv k,true⟩],Aw:=AG 5 (qv++[xv 8]) qr}
def ArN(k:Nat):A0:={cf:=[AG 2 qv qr,AG 3 (qv++[xv 8]) qr,⟨.geq,xv 8,.lit 1,true⟩,⟨.leq,xv 8,.lit 65535,true⟩,⟨.geq,xv k,.lit 0,true⟩,⟨.leq,xv k,.lit 65535,true⟩],abs:=[⟨k,[(xv k,0,.sym .i64 (xv 8))],20,[]⟩],Aw:=AG 2 (qv.set k (Iv (xv k))) (qr.set k 20)}
def ArO(k:Nat):A0:={cf:=[AG 2 qv qr,AG 7 [xv k,xv 9] [k,20],⟨.geq,xv 9,.lit 0,true⟩,⟨.lss,xv 9,xv k,true⟩,⟨.leq,xv k,.lit 65535,true⟩,⟨.eql,xv 10,.bin .sub .i64 (xv k) (.lit 1),true⟩],Aw:=AG 2 (qv.set k (xv 10)) (qr.set k 20)}
def ArP(k:Nat):A0:={cf:=[AG 2 qv qr],Aw:=⟨.leq,xv k,.lit 65535,true⟩}
def rlQ:List A0:=[
 {cf:=[],Aw:=AG 4 (.lit 7::xv 8::qv) qr},
 {cf:=[AG 4 (xv 9::xv 8::qv) qr,⟨.lss,xv 9,.lit 0,true⟩],Aw:=AG 3 (qv++[xv 8]) qr}]
def ArQ(k:Nat):A0:={cf:=[⟨.geq,xv k,.lit 0,true⟩,⟨.leq,xv k,.lit 65535,true⟩],abs:=[⟨k,[(xv k,0,.sym .i64 (xv 8))],20,[]⟩],Aw:=AG 8 (qv++qv.set k (Iv (xv k))++[xv 8]) (qr++qr.set k 20)}
def ArR(k:Nat):A0:={cf:=[AG 2 qv qr,AG 7 [xv k,xv 9] [k,20],⟨.eql,.cell k (xv 9) 0,xv 8,true⟩,⟨.geq,xv 9,.lit 0,true⟩,⟨.lss,xv 9,xv k,true⟩,⟨.leq,xv k,.lit 65535,true⟩,⟨.eql,xv 10,.bin .sub .i64 (xv k) (.lit 1),true⟩],Aw:=AG 9 (qv++qv.set k (xv 10)++[xv 8]) (qr++qr.set k 20)}
def ArT(k:Nat):A0:={cf:=[AG 11 (xv 9::xv 10::qv),⟨.eql,xv 9,.lit (.ofNat k),true⟩,⟨.geq,xv 10,.lit 0,true⟩,⟨.leq,xv 10,.lit 65535,true⟩,⟨.geq,xv k,.lit 0,true⟩,⟨.leq,xv k,.lit 65535,true⟩],Aw:=AG 11 (.lit ((k:Int)-1)::.bin .add .i64 (xv 10) (xv k)::qv)}
def ArS(k:Nat):A0:={cf:=[AG 11 (xv 9::xv 10::qv),⟨.eql,xv 9,.lit (.ofNat k),true⟩,⟨.leq,xv k,.lit 0,true⟩,⟨.geq,xv k,.lit 0,true⟩],Aw:=AG 11 (.lit ((k:Int)-1)::xv 10::qv)}
def Ahr(c k:Nat):A0:={cf:=[AG 11 (xv 9::xv 10::qv),AG 2 qv qr,⟨.eql,xv 9,.lit (.ofNat k),true⟩]++(List.range 8).map fun i=>⟨.geq,xv i,.lit 0,true⟩,Aw:=⟨.leq,.bin .add .i64 (xv 10) (xv k),.lit (.ofNat c),true⟩}
def rlT:List A0:=[
 {cf:=[],Aw:=AG 11 (.lit 7::.lit 0::qv)},
 {cf:=[AG 11 (xv 9::xv 10::qv),⟨.lss,xv 9,.lit 0,true⟩],Aw:=AG 10 (qv++[xv 10])}]
def GS:List Ck:=(List.range 24).map fun c=>if [8,18,19,20,21].contains c then .b else if [3,4,5,6,7,11,12,13,14,15,22,23].contains c then .i .u64 else .i .i64
def Z3(a:Nat)(ks:List Ck):List A:=ks.zipIdx.map fun (k,i)=>match k with |.i k=>.sym k (.var (a+i))|.b=>.sb (.var (a+i))|_=>.B7
def Tj(a:Nat):List E:=(List.range 24).map fun c=>.var (a+c)
def AcC(e:Nat->E):List CF:=[⟨.geq,e 1,.lit 0,true⟩,⟨.leq,e 1,.lit 4,true⟩,⟨.geq,e 2,.lit 0,true⟩,⟨.leq,e 2,.lit 7,true⟩,⟨.geq,e 9,.lit 0,true⟩,⟨.geq,e 10,.lit 0,true⟩,⟨.geq,e 16,.lit 0,true⟩,⟨.leq,e 16,.lit 4096,true⟩,⟨.geq,e 17,.lit 0,true⟩,⟨.leq,e 17,.lit 4096,true⟩]
def ArU:A0:={cf:=[],Fy:=[⟨0,[(xv 0,some (.agg (Z3 1 GS)))],1⟩],Aw:=AG 58 (xv 0::Tj 1) [] [0,1]}
def ArV:A0:={cf:=[],Fy:=[⟨0,[(xv 0,none)],1⟩],Aw:=AG 59 [xv 0] [] [0,1]}
def ArW:A0:={cf:=[],DW:=[(0,xv 0,false)],Aw:=AG 60 [xv 0] [] [0]}
def ArX:A0:={cf:=[],DW:=[(0,xv 0,true)],Aw:=AG 61 [xv 0] [] [0]}
def ArY(i:Nat):A0:={cf:=[AG 50 [] [] [0],AG 61 [xv 0] [] [0]],Aw:=(AcC fun c=>.Bd 0 (xv 0) c).getD i ⟨.leq,.lit 0,.lit 0,true⟩}
def ArZ:A0:={cf:=[AG 50 [] [] [0],AG 61 [xv 0] [] [0]],Aw:=⟨.geq,.Bd 0 (xv 0) 0,.lit 1,true⟩}
def Ahs:List A0:=[
 {cf:=[AG 50 [] [] [0],AG 61 [xv 0] [] [0]],Aw:=⟨.eql,.Bd 0 (xv 0) 0,xv 0,true⟩},
 {cf:=[AG 50 [] [] [0],AG 61 [xv 0] [] [0]],Aw:=⟨.geq,xv 0,.lit 1,true⟩},
 {cf:=[AG 58 (xv 0::Tj 1) [] [0,1],AG 50 [] [] [0],⟨.eql,xv 1,xv 0,true⟩,⟨.geq,xv 0,.lit 1,true⟩]++AcC (fun c=>xv (c+1)),Aw:=AG 50 [] [] [1]},
 {cf:=[AG 59 [xv 0] [] [0,1],AG 50 [] [] [0]],Aw:=AG 50 [] [] [1]}]
def rlM:List A0:=ArU::ArV::ArW::ArX::((List.range 10).map ArY++Ahs)
def rlX:List A0:=rlA++(rlQ++((List.range 8).map ArL++((List.range 8).map ArM++((List.range 8).map ArN++((List.range 8).map ArO++((List.range 8).map ArP++
 ((List.range 8).map ArQ++((List.range 8).map ArR++((List.range 8).map ArT++((List.range 8).map ArS++((List.range 8).map (Ahr 65535)++((List.range 8).map (Ahr 65536)++rlT))))))))))))
def Asa:A0:={cf:=[AG 57 [xv 0] [0] [0],⟨.geq,xv 1,.lit 0,true⟩,⟨.lss,xv 1,xv 0,true⟩],DW:=[(0,.cell 0 (xv 1) 0,false)],Aw:=⟨.lss,.lit 1,.lit 0,true⟩}
def Asb:A0:={cf:=[],Aw:=AG 62 [.lit 0] [0,1] [0]}
def mcA(ks:List Ck)(e:E):List A:=ks.zipIdx.map fun (k,i)=>match k with |.i k=>.sym k (.Bd 0 e i)|.b=>.sb (.Bd 0 e i)|_=>.B7
def Asc:A0:={cf:=[AG 62 [xv 0] [0,1] [0],⟨.geq,xv 0,.lit 0,true⟩,⟨.leq,xv 0,.lit 65535,true⟩,⟨.eql,xv 1,xv 0,true⟩],abs:=[⟨1,((mcA GS (.cell 0 (xv 0) 0)).zipIdx.map fun (a,c)=>(xv 1,c,a)),2,[]⟩],Aw:=AG 62 [Iv (xv 0)] [0,2] [0]}
def Asd:A0:={cf:=[AG 62 [xv 2] [1,0] [0],AG 57 [xv 1] [1] [0],AG 50 [] [] [0],⟨.eql,xv 0,xv 2,true⟩,⟨.geq,xv 2,xv 1,true⟩,⟨.leq,xv 2,xv 1,true⟩],Aw:=AG 63 [xv 0] [0] [0]}
def rlN:List A0:=[Asa,Asb,Asc,Asd,ArZ]
def av(a:Nat):List E:=(List.range 64).map fun k=>.var (a+k)
def idE(f:Nat):E:=.bin .add .i64 (.lit (.ofNat (f+1))) (.bin .mul .i64 (.lit 64) (xv (f+1)))
def ArJ(f:Nat):A0:={cf:=[AG 80 (xv 0::av 1),⟨.gtr,idE f,.lit 65535,false⟩,⟨.eql,xv 70,.lit (.ofNat f),true⟩],Aw:=AG 81 (xv 70::idE f::av 1)}
def ArK(f:Nat):A0:={cf:=[AG 80 (xv 0::av 1),AG 81 (xv 70::xv 71::av 1),⟨.eql,xv 70,.lit (.ofNat f),true⟩,⟨.geq,xv 0,.lit 0,true⟩,⟨.leq,xv 0,.lit 65536,true⟩,⟨.eql,xv 72,Iv (xv 0),true⟩],Aw:=AG 80 (xv 72::(av 1).set f (Iv (xv (f+1))))}
def rlB:List A0:=[
 {cf:=[AG 80 (xv 0::av 1)],Aw:=⟨.leq,xv 0,.lit 65536,true⟩},
 {cf:=[AG 80 (xv 0::av 1),AG 81 (xv 70::xv 71::av 1),⟨.geq,xv 0,.lit 0,true⟩],Aw:=⟨.leq,Iv (xv 0),.lit 65536,true⟩},
 {cf:=[AG 80 (xv 0::av 1),⟨.leq,xv 70,xv 0,true⟩],Aw:=AG 80 (xv 70::av 1)},
 {cf:=[AG 80 (xv 0::av 1),AG 81 (xv 70::xv 71::av 1),⟨.geq,xv 0,.lit 0,true⟩],Aw:=⟨.leq,xv 0,.lit 65535,true⟩},
 {cf:=[AG 81 (xv 70::xv 71::av 1)],Aw:=⟨.geq,xv 71,.lit 1,true⟩}]++((List.range 32).map ArJ++(List.range 32).map ArK)
def Asf:A0:={cf:=[AG 91 [xv 0] [0],⟨.geq,xv 0,.lit 0,true⟩,⟨.leq,xv 0,.lit 65535,true⟩]++(List.range 8).map fun c=>⟨.eql,.cell 0 (xv 0) c,.lit 0,true⟩,Aw:=AG 91 [Iv (xv 0)] [0]}
def Asg(c:Nat):A0:={cf:=[⟨.eql,.cell 0 (xv 1) c,.lit 0,false⟩,⟨.geq,xv 1,.lit 0,true⟩,⟨.lss,xv 1,xv 0,true⟩],Aw:=AG 92 [xv 0] [0]}
def rlZ:List A0:=[{cf:=[],Aw:=AG 91 [.lit 0] [0]},Asf,{cf:=[AG 91 [xv 1] [0],⟨.leq,xv 0,xv 1,true⟩],Aw:=AG 91 [xv 0] [0]}]++(List.range 8).map Asg
def rlU:List A0:=[
 {cf:=[],Aw:=AG 120 [.lit 0,.lit 0,.lit 0]},
 {cf:=[AG 120 [xv 0,xv 1,xv 2],⟨.lss,xv 2,xv 3,true⟩,⟨.leq,xv 3,.lit 16000,true⟩],Aw:=AG 120 [Iv (xv 0),xv 1,Iv (xv 2)]},
 {cf:=[AG 120 [xv 0,xv 1,xv 2],⟨.lss,xv 2,xv 3,true⟩,⟨.leq,xv 3,.lit 16000,true⟩],Aw:=AG 120 [xv 0,xv 1,Iv (xv 2)]},
 {cf:=[AG 120 [xv 0,xv 1,xv 2],⟨.lss,xv 1,xv 3,true⟩,⟨.leq,xv 3,.lit 65536,true⟩],Aw:=AG 120 [xv 0,Iv (xv 1),.lit 0]},
 {cf:=[AG 120 [xv 0,xv 1,xv 2]],Aw:=⟨.leq,xv 0,.lit 1073741000,true⟩}]
def rlS:List A0:=[
 {cf:=[AG 1 [xv 0,xv 1] [0],⟨.eql,.cell 0 (xv 0) 0,xv 1,false⟩,⟨.geq,xv 0,.lit 0,true⟩,⟨.leq,xv 0,.lit 65535,true⟩],Aw:=AG 1 [Iv (xv 0),xv 1] [0]},
 {cf:=[AG 93 [xv 0,xv 1,xv 2] [0],⟨.eql,.cell 0 (xv 3) 0,xv 1,true⟩,⟨.geq,xv 3,.lit 0,true⟩,⟨.lss,xv 3,xv 0,true⟩],Aw:=⟨.eql,xv 2,xv 3,true⟩},
 {cf:=[AG 1 [xv 0,xv 1] [0],⟨.eql,.cell 0 (xv 3) 0,xv 1,true⟩,⟨.geq,xv 3,.lit 0,true⟩,⟨.lss,xv 3,xv 0,true⟩],Aw:=⟨.lss,.lit 1,.lit 0,true⟩},
 {cf:=[AG 93 [xv 0,xv 1,xv 2] [0],AG 1 [xv 0,xv 1] [0]],Aw:=⟨.lss,.lit 1,.lit 0,true⟩},
 {cf:=[],Aw:=AG 95 [.lit 0] [0]},
 {cf:=[AG 95 [xv 0] [0],⟨.eql,.cell 0 (xv 0) 0,.lit 0,true⟩,⟨.geq,xv 0,.lit 0,true⟩,⟨.leq,xv 0,.lit 65535,true⟩],Aw:=AG 95 [Iv (xv 0)] [0]},
 {cf:=[AG 95 [xv 0] [0],⟨.eql,.cell 0 (xv 1) 0,.lit 0,false⟩,⟨.geq,xv 1,.lit 0,true⟩,⟨.lss,xv 1,xv 0,true⟩],Aw:=⟨.lss,.lit 1,.lit 0,true⟩},
 {cf:=[AG 95 [xv 0] [0],⟨.neq,.cell 0 (xv 1) 0,.lit 0,true⟩,⟨.geq,xv 1,.lit 0,true⟩,⟨.lss,xv 1,xv 0,true⟩],Aw:=⟨.lss,.lit 1,.lit 0,true⟩},
 {cf:=[⟨.geq,xv 1,.lit 0,true⟩,⟨.leq,xv 1,.lit 65535,true⟩,⟨.eql,xv 3,xv 1,true⟩],CI:=[⟨5,.lit 0,0,.lit 0,xv 1,6⟩,⟨6,xv 1,0,Iv (xv 1),xv 2,7⟩],Aw:=AG 7 [xv 0,xv 3] [0,7]},
 {cf:=[AG 99 [xv 0] [0],AG 95 [xv 1] [0],⟨.leq,xv 0,xv 1,true⟩],Aw:=⟨.lss,.lit 1,.lit 0,true⟩},
 {cf:=[],Aw:=AG 96 [.lit 0] [0,1]},
 {cf:=[AG 96 [xv 0] [0,1],⟨.geq,xv 0,.lit 0,true⟩,⟨.leq,xv 0,.lit 65535,true⟩,⟨.eql,xv 1,xv 0,true⟩,⟨.eql,xv 2,xv 0,true⟩],abs:=[⟨1,[(xv 1,0,.sym .i64 (.cell 0 (xv 2) 0)),(xv 1,1,.rc 0 (xv 2) 1)],2,[]⟩],Aw:=AG 96 [Iv (xv 0)] [0,2]},
 {cf:=[AG 96 [xv 1] [0,1],⟨.leq,xv 0,xv 1,true⟩],Aw:=AG 98 [xv 0,xv 1] [0,1]}]
def Ase:A0:={cf:=[AG 98 [xv 1,xv 2] [0,1],⟨.leq,xv 0,xv 1,true⟩],Aw:=AG 98 [xv 0,xv 2] [0,1]}
def DZ:A0:={cf:=[AG 98 [xv 0,xv 3] [0,1],⟨.geq,xv 0,.lit 0,true⟩,⟨.leq,xv 0,.lit 65535,true⟩,⟨.eql,xv 1,Iv (xv 0),true⟩,⟨.eql,xv 2,xv 0,true⟩,⟨.leq,xv 3,xv 0,true⟩],abs:=[⟨1,[(xv 1,0,.sym .i64 (.cell 0 (xv 2) 0)),(xv 1,1,.rc 0 (xv 2) 1)],2,[]⟩],Aw:=AG 98 [Iv (xv 0),xv 3] [0,2]}
def nw(z:E):List E:=z::(List.range 23).map fun c=>if c==15||c==16 then .lit 4096 else .lit 0
def ri(t q:Nat):CF:=AG 100 [] [] [] [t,q]
def b1(g:Nat)(ns:List E)(bs:List Nat):CF:=AG g ns [] [] bs
def Xp(a b:E)(r:Bool:=true):CF:=⟨.eql,a,b,r⟩
def noX:CF:=⟨.lss,.lit 1,.lit 0,true⟩
def rlR:List A0:=[
 {cf:=[b1 74 (xv 0::nw (xv 0)) [0,2],ri 0 1],Aw:=ri 2 1},
 {cf:=[b1 70 [xv 0] [0],b1 33 [xv 0] [1,3],ri 0 1],Aw:=ri 0 3},
 {cf:=[b1 73 [xv 0] [0,2],b1 30 [xv 0] [1],ri 0 1],Aw:=ri 2 1},
 {cf:=[b1 73 [xv 0] [0,2],b1 33 [xv 0] [1,3],ri 0 1],Aw:=ri 2 3},
 {cf:=[b1 72 (xv 0::Tj 1) [0,2],b1 31 [xv 30] [1],Xp (xv 30) (xv 0),Xp (xv 2) (.lit 1),ri 0 1],Aw:=ri 2 1},
 {cf:=[b1 72 (xv 0::Tj 1) [0,2],b1 32 [xv 30] [1,3],Xp (xv 30) (xv 0),Xp (xv 2) (.lit 1),ri 0 1],Aw:=ri 2 3},
 {cf:=[b1 72 (xv 0::Tj 1) [0,2],b1 30 [xv 30] [1],Xp (xv 30) (xv 0),Xp (xv 2) (.lit 1) false,ri 0 1],Aw:=ri 2 1},
 {cf:=[b1 72 (xv 0::Tj 1) [0,2],b1 33 [xv 30] [1,3],Xp (xv 30) (xv 0),Xp (xv 2) (.lit 1) false,ri 0 1],Aw:=ri 2 3},
 {cf:=[b1 72 (xv 60::Tj 61) [0,2],b1 71 (xv 0::Tj 30) [0],Xp (xv 60) (xv 0),Xp (xv 62) (xv 31),ri 0 1],Aw:=ri 2 1},
 {cf:=[b1 70 [xv 0] [0],b1 71 (xv 1::Tj 2) [0],Xp (xv 1) (xv 0)],Aw:=noX},
 {cf:=[b1 70 [xv 0] [0],b1 73 [xv 1] [0,1],Xp (xv 1) (xv 0)],Aw:=noX}]
def rlL:List A0:=[
 {cf:=[],Aw:=AG 101 [.lit 0,.lit 0] [0]},
 {cf:=[AG 101 [xv 0,xv 1] [0],Xp (.cell 0 (xv 1) 1) (.lit 1),⟨.geq,xv 1,.lit 0,true⟩,⟨.leq,xv 1,.lit 65536,true⟩],Aw:=AG 101 [Iv (xv 0),Iv (xv 1)] [0]},
 {cf:=[AG 101 [xv 0,xv 1] [0],Xp (.cell 0 (xv 1) 1) (.lit 1) false,⟨.geq,xv 1,.lit 0,true⟩,⟨.leq,xv 1,.lit 65536,true⟩],Aw:=AG 101 [xv 0,Iv (xv 1)] [0]},
 {cf:=[ri 0 1,AG 75 [xv 0] [2] [] [0],b1 31 [.cell 2 (xv 1) 0] [1],Xp (.cell 2 (xv 1) 1) (.lit 1) false,⟨.geq,xv 1,.lit 0,true⟩,⟨.lss,xv 1,xv 0,true⟩],Aw:=noX},
 {cf:=[ri 0 1,AG 75 [xv 0] [2] [] [0],b1 30 [.cell 2 (xv 1) 0] [1],Xp (.cell 2 (xv 1) 1) (.lit 1),⟨.geq,xv 1,.lit 0,true⟩,⟨.lss,xv 1,xv 0,true⟩],Aw:=noX},
 {cf:=[ri 0 1,AG 75 [xv 0] [2] [] [0],AG 101 [xv 1,xv 3] [2],b1 34 [xv 2] [1],Xp (xv 3) (xv 0),⟨.neq,xv 1,xv 2,true⟩,⟨.geq,xv 0,.lit 0,true⟩],rd:=[(1,[.g 1])],Aw:=noX},
 {cf:=[AG 101 [xv 0,xv 1] [0]],Aw:=⟨.leq,xv 0,xv 1,true⟩},
 {cf:=[AG 101 [xv 0,xv 1] [0]],Aw:=⟨.geq,xv 0,.lit 0,true⟩}]
def m8(e:E):E:=.bin .mul .i64 (.lit 8) e
def rlW:List A0:=[
 {cf:=[⟨.geq,xv 0,.lit 0,true⟩,⟨.leq,xv 0,.lit 32,true⟩],Aw:=⟨.geq,m8 (xv 0),.lit 0,true⟩},
 {cf:=[⟨.geq,xv 0,.lit 0,true⟩,⟨.leq,xv 0,.lit 32,true⟩],Aw:=⟨.leq,m8 (xv 0),.lit 256,true⟩},
 {cf:=[⟨.lss,xv 2,m8 (.bin .add .i64 (xv 0) (xv 1)),true⟩,⟨.geq,xv 0,.lit 0,true⟩,⟨.leq,xv 0,.lit 32,true⟩,⟨.geq,xv 1,.lit 0,true⟩,⟨.leq,xv 1,.bin .sub .i64 (.lit 32) (xv 0),true⟩],Aw:=⟨.lss,xv 2,.lit 256,true⟩}]
def rl:List A0:=rlX++(rlM++(rlN++(rlB++(rlZ++(rlU++(rlS++(DZ::Ase::(rlR++(rlL++rlW)))))))))
structure PN where
 kind:Nat
 bl:List (Nat×Aj)
 n:Nat
 ps:List (Option (Nat×Nat))
 nb:Nat
 cf:List CF:=[]
 rd:List KC:=[]
 mp:List KC:=[]
 Apu:List (Nat×Nat):=[]
def xi(i:Nat):A:=.sym .i64 (.var i)
def BK(l:List A):Aj:=.cells (T.ofList l) l.length true none
def Fi:List E:=(List.range 8).map fun i=>.var i
def Iz:List Nat:=(List.range 8).map fun i=>i+8
def IU:PN:={kind:=1,bl:=(0,BK ((List.range 8).map fun i=>.C2 (i+1) 1 (.var i)))::(List.range 8).map (fun i=>(i+1,.row (i+8) 1 (.var i) [])),n:=9,ps:=(List.range 8).map fun i=>some (0,i),nb:=16,cf:=(List.range 8).map (fun i=>⟨.geq,.var i,.lit 0,true⟩)++(AG 2 Fi Iz::(List.range 8).map fun i=>⟨.leq,.var i,.lit 65535,true⟩),rd:=(List.range 8).map fun i=>(i+8,[.i .i64])}
def We(a:Nat):List E:=(List.range 8).map fun i=>.var (a+i)
def q8x(a:Nat):List Nat:=(List.range 8).map fun i=>a+8+i
def Hm:PN:={kind:=2,bl:=[(0,BK [.map 1]),(1,.Ej 0 [])],n:=2,ps:=[some (0,0)],nb:=1,cf:=[AG 50 [] [] [0]],mp:=[(0,GS)]}
def KN:PN:={kind:=3,bl:=[(0,BK (.int .i64 32::((List.range 64).map fun k=>xi (k+2))++[.C2 1 9 (.var 0)])),(1,.row 1 9 (.var 0) [])],n:=2,ps:=[some (0,65)],nb:=66,cf:=[⟨.geq,.var 0,.lit 0,true⟩,AG 80 (.var 0::av 2),⟨.leq,.var 0,.lit 65536,true⟩],rd:=[(1,List.replicate 9 (.i .i64))]}
def Za:PN:={kind:=4,bl:=[(0,BK [.C2 1 8 (.lit 32)]),(1,.row 0 8 (.lit 32) [])],n:=2,ps:=[some (0,0)],nb:=1,rd:=[(0,List.replicate 8 (.i .u64))]}
def ArA(a:Nat):List A:=(List.range 10).map fun c=>if c==1 then .sb (.var (a+c)) else xi (a+c)
def Zb:PN:={kind:=5,bl:=[(0,BK ((List.range 8).flatMap (fun p=>ArA (10*p))++(List.range 32).map fun k=>xi (80+k)))],n:=1,ps:=[],nb:=112}
def ArH:List (Int×Int×Int):=[(2,1,0),(1,0,1),(2,2,0),(9,8,1),(2,3,0),(2,4,0),(1,1,1),(2,5,0),(2,6,0),(2,7,0),(8,2,1),(9,7,1),(2,8,0),(2,9,0),(2,10,0),(2,11,0),(9,11,1),(2,12,0),(2,13,0),(2,14,0),(9,1,0),(8,0,1),(9,2,0),(9,3,0)]
def trZ(z:Int):A:=.int .i64 z
def As2:List (Nat×Aj):=(0,BK [.ptr 1 0,.rc 0 (.lit 0) 0])::(1,BK [trZ 0,trZ 0,trZ 0,.ptr 25 0,.ptr 2 0])::ArH.zipIdx.map fun (a,i)=>(i+2,BK [trZ a.1,trZ a.2.1,trZ a.2.2,.ptr (i+1) 0,.ptr (if i==23 then 1 else i+3) 0])
def Zc:PN:={kind:=9,bl:=As2,n:=26,ps:=some (0,0)::(List.range 24).map fun k=>some (k+1,4),nb:=1}
def C5:List PN:=[IU,Hm,KN,Za,Zb,Zc]
def YZ:PN:={kind:=6,bl:=[(0,BK [.B7,.bool false])],n:=1,ps:=[],nb:=0}
def JN:List Ck:=[.i .i64,.i .i64,.i .i64,.i .u64,.i .i64,.i .i64,.i .i64,.i .i64]
def SH:PN:={kind:=7,bl:=[(0,.row 1 8 (.var 0) [])],n:=1,ps:=[],nb:=2,cf:=[⟨.geq,.var 0,.lit 1,true⟩,⟨.leq,.var 0,.lit 16,true⟩],rd:=[(1,JN)]}
structure FMd where
 kind:Nat
 s:PN
 V:A
def fmE:FMd:={kind:=6,s:=YZ,V:=.ptr 0 0}
def fmW:FMd:={kind:=7,s:=SH,V:=.C2 0 8 (.var 0)}
def Rt:List FMd:=[fmE,fmW]
abbrev Rw:=Nat->Nat->Value
def EB:Rw:=fun _ _=>undef
def EX(n:Int)(r:Rw)(x:Int):Prop:=∀j:Nat,(j:Int)<n->numOf (r j 0) ≠ x
def QOK(n:Nat->Int)(r:Nat->Rw):Prop:=(∀q,q<8->∀j:Nat,(j:Int)<n q->1<=numOf (r q j 0)/\numOf (r q j 0)<=65535)/\
 ∀q,q<8->∀q',q'<8->∀j j':Nat,(j:Int)<n q->(j':Int)<n q'->numOf (r q j 0)=numOf (r q' j' 0)->q=q'/\j=j'
def CN(n:Nat->Int)(r:Nat->Rw)(x:Int):Prop:=∃q,q<8/\∃j:Nat,(j:Int)<n q/\numOf (r q j 0)=x
def C4(n:Nat->Int):Int:=n 0+n 1+n 2+n 3+n 4+n 5+n 6+n 7
def Cq(n:Nat->Int)(p:Int):Int:=(if p<0 then n 0 else 0)+(if p<1 then n 1 else 0)+(if p<2 then n 2 else 0)+(if p<3 then n 3 else 0)+(if p<4 then n 4 else 0)+(if p<5 then n 5 else 0)+(if p<6 then n 6 else 0)+(if p<7 then n 7 else 0)
def WN(e:Nat->Int):Prop:=0<=e 1/\e 1<=4/\0<=e 2/\e 2<=7/\0<=e 9/\0<=e 10/\0<=e 16/\e 16<=4096/\0<=e 17/\e 17<=4096
def QS(m:Int->Option Value):Prop:=∀z,(m z).isSome=true->Dm (m z) 0=z/\1<=z/\WN fun c=>Dm (m z) c
abbrev Mp:=Int->Option Value
def RK(c:Nat):Bool:=match GS.getD c .u with |.i _=>true|_=>false
def Put(m m':Mp)(z:Int)(e:Nat->Int):Prop:=∃u,(∀c,c<24->RK c=true->Dm (some u) c=e c)/\∀y,m' y=if y=z then some u else m y
def UT(m m':Mp)(z:Int):Prop:=∀y,m' y=if y=z then none else m y
def KeysOf(n:Int)(r:Rw)(m:Mp):Prop:=(∀j:Nat,(j:Int)<n->(m (numOf (r j 0))).isSome=true)/\(∀i j:Nat,i<j->(j:Int)<n->numOf (r i 0)<numOf (r j 0))/\∀z,(m z).isSome=true->∃j:Nat,(j:Int)<n/\numOf (r j 0)=z
def QR(i:Int)(k r:Rw)(m:Mp):Prop:=∀j:Nat,(j:Int)<i->∀c,c<24->RK c=true->numOf (r j c)=Dm (m (numOf (k j 0))) c
def L8(n:Int)(r:Rw)(m:Mp):Prop:=(∀j:Nat,(j:Int)<n->(m (numOf (r j 0))).isSome=true/\∀c,c<24->RK c=true->numOf (r j c)=Dm (m (numOf (r j 0))) c)/\(∀i j:Nat,i<j->(j:Int)<n->numOf (r i 0)<numOf (r j 0))/\∀z,(m z).isSome=true->∃j:Nat,(j:Int)<n/\numOf (r j 0)=z
def PR:List Int->Int
 | []=>0
 |a::l=>a+PR l
def JJ(n:Int)(ad:List Int):Prop:=ad.length=64/\(∀a∈ad,0<=a/\a<=1024)/\n<=PR ad
def LY(first id:Int)(ad:List Int):Prop:=∃f:Nat,f<64/\first=(f:Int)/\id=first+1+64*ad.getD f 0/\id<=65535/\1<=id
def L9(r l:Rw)(j i:Nat):Prop:=numOf (l j 0)=numOf (r i 0)/\l j 1=r i 1
def F96(i:Int)(r l:Rw):Prop:=∀j:Nat,(j:Int)<i->L9 r l j j
def F98(n b:Int)(r l:Rw):Prop:=∀j:Nat,((j:Int)<b->L9 r l j j)/\(b<(j:Int)->(j:Int)<=n->L9 r l j (j-1))
def Ka(r:Rw):Nat->Int
 | 0=>0
 |k+1=>Ka r k+if numOf (r k 1)=1 then 1 else 0
def Rr(n:Nat)(ns:List Int)(rs:List Rw)(ms:List (Int->Option Value))(bs:List CH):Prop:=
 match n,ns,rs,ms,bs with
 | 1,[n,x],[r],_,_=>EX n r x
 | 2,ns,rs,_,_=>QOK (fun q=>ns.getD q 0) fun q=>rs.getD q EB
 | 3,ns,rs,_,_=>∀q,q<8->EX (ns.getD q 0) (rs.getD q EB) (ns.getD 8 0)
 | 4,p::x::ns,rs,_,_=>∀q:Nat,q<8->p<(q:Int)->EX (ns.getD q 0) (rs.getD q EB) x
 | 5,ns,rs,_,_=>∃q,q<8/\∃j:Nat,(j:Int)<ns.getD q 0/\numOf (rs.getD q EB j 0)=ns.getD 8 0
 | 7,[_,i],[r,r'],_,_=>∀(j c:Nat),r' j c=if (j:Int)<i then r j c else r (j+1) c
 | 8,ns,rs,_,_=>(∀x,CN (fun q=>ns.getD (8+q) 0) (fun q=>rs.getD (8+q) EB) x↔CN (fun q=>ns.getD q 0) (fun q=>rs.getD q EB) x\/x=ns.getD 16 0)/\C4 (fun q=>ns.getD (8+q) 0)=C4 (fun q=>ns.getD q 0)+1
 | 9,ns,rs,_,_=>(∀x,CN (fun q=>ns.getD (8+q) 0) (fun q=>rs.getD (8+q) EB) x↔CN (fun q=>ns.getD q 0) (fun q=>rs.getD q EB) x/\x ≠ ns.getD 16 0)/\C4 (fun q=>ns.getD (8+q) 0)=C4 (fun q=>ns.getD q 0)-1
 | 10,ns,_,_,_=>ns.getD 8 0=C4 fun q=>ns.getD q 0
 | 11,p::m::ns,_,_,_=>m=Cq (fun q=>ns.getD q 0) p
 | 50,_,_,[m],_=>QS m
 | 57,[n],[r],[m],_=>KeysOf n r m
 | 58,z::es,_,[m,m'],_=>Put m m' z fun c=>es.getD c 0
 | 59,[z],_,[m,m'],_=>UT m m' z
 | 60,[z],_,[m],_=>m z=none
 | 61,[z],_,[m],_=>(m z).isSome=true
 | 62,[i],[k,r],[m],_=>QR i k r m
 | 63,[n],[r],[m],_=>L8 n r m
 | 75,[n],[r],_,[B]=>L8 n r (B.sm 0)
 | 91,[n],[r],_,_=>∀j c:Nat,(j:Int)<n->c<8->numOf (r j c)=0
 | 92,[n],[r],_,_=>∃j c:Nat,(j:Int)<n/\c<8/\numOf (r j c) ≠ 0
 | 80,n::ad,_,_,_=>JJ n ad
 | 81,first::id::ad,_,_,_=>LY first id ad
 | 70,[z],_,_,[B]=>B.sm 0 z=none
 | 71,z::es,_,_,[B]=>(B.sm 0 z).isSome=true/\∀c,c<24->RK c=true->Dm (B.sm 0 z) c=es.getD c 0
 | 72,z::es,_,_,[B,B']=>(B.sm 0 z).isSome=true/\Put (B.sm 0) (B'.sm 0) z fun c=>es.getD c 0
 | 73,[z],_,_,[B,B']=>(B.sm 0 z).isSome=true/\UT (B.sm 0) (B'.sm 0) z
 | 74,z::es,_,_,[B,B']=>B.sm 0 z=none/\Put (B.sm 0) (B'.sm 0) z fun c=>es.getD c 0
 | 30,[x],_,_,[B]=>¬CN B.sv (fun i=>B.sr (8+i)) x
 | 31,[x],_,_,[B]=>CN B.sv (fun i=>B.sr (8+i)) x
 | 32,[x],_,_,[B,B']=>(∀y,CN B'.sv (fun i=>B'.sr (8+i)) y↔CN B.sv (fun i=>B.sr (8+i)) y\/y=x)/\C4 B'.sv=C4 B.sv+1
 | 33,[x],_,_,[B,B']=>(∀y,CN B'.sv (fun i=>B'.sr (8+i)) y↔CN B.sv (fun i=>B.sr (8+i)) y/\y ≠ x)/\C4 B'.sv=C4 B.sv-1
 | 34,[n],_,_,[B]=>n=C4 B.sv
 | 93,[n,x,k],[r],_,_=>0<=k/\k<n/\numOf (r k.toNat 0)=x/\∀j:Nat,(j:Int)<n->numOf (r j 0)=x->(j:Int)=k
 | 95,[n],[r],_,_=>∀j:Nat,(j:Int)<n->numOf (r j 0)=0
 | 99,[n],[r],_,_=>∃j:Nat,(j:Int)<n/\numOf (r j 0) ≠ 0
 | 96,[i],[r,l],_,_=>F96 i r l
 | 98,[n,b],[r,l],_,_=>F98 n b r l
 | 120,[m,k,i],_,_,_=>0<=m/\m<=16000*k+i/\0<=k/\k<=65536/\0<=i/\i<=16000
 | 100,_,_,_,[T,Q]=>∀x,CN Q.sv (fun i=>Q.sr (8+i)) x↔∃u,T.sm 0 x=some u/\Dm (some u) 1=1
 | 101,[m,k],[r],_,_=>m=Ka r k.toNat/\0<=k
 |_,_,_,_,_=>False
def PN.D(s:PN):Shape:=⟨s.bl,s.n,s.ps⟩
def PN.is(K:Nat->CH->Prop)(s:PN)(Y:An):Prop:=(∀f∈s.cf,@A2 ⟨fun _ _=>False,Rr⟩ Y f)/\(∀p∈s.rd,∀j c,A9 (p.2.getD c .u) (Y.r p.1 j c))/\(∀p∈s.mp,HN Y p)/\∀p∈s.Apu,K p.2 (Y.b p.1)
def Agl:Nat->Nat->CH->Prop
 | 0,_,_=>False
 |l+1,k,B=>(∃s∈C5,s.kind=k/\∃Y,B=s.D.Am V.WD Y/\s.is (Agl l) Y)\/(∃f∈Rt,f.kind=k/\∃st,B=Be.Am V.WD ⟨f.s.D,f.V⟩ st/\∀z Y,st z=some Y->f.s.is (Agl l) Y)\/(k=8/\∃st,B=D0 st/\∀z,(st z).isSome=true->1<=z/\z<=65535)
instance:AD:=⟨Agl 6,Rr⟩
variable {U:An}
theorem Vq:∀{f:Nat} {l:List E},l.length<=2^f->Es (f+1) l.length (TV (f+1) l)=some l:=by
 intro f
 induction f with
 |zero=>
  intro l h
  match l with
  | []=>rfl
  | [a]=>rfl
  |a::b::l=>simp at h
 |succ f ih=>
  intro l h
  match l with
  | []=>rfl
  | [a]=>rfl
  |a::b::l=>
   show (Es (f+1) ((l.length+2) / 2) (TV (f+1) ((a::b::l).take ((l.length+2) / 2)))).bind (fun p=>(Es (f+1) (l.length+2-(l.length+2) / 2) (TV (f+1) ((a::b::l).drop ((l.length+2) / 2)))).map fun m=>p++m)=_;have hlen:(a::b::l).length=l.length+2:=rfl;have e1:((a::b::l).take ((l.length+2) / 2)).length=(l.length+2) / 2:=by rw[List.length_take,hlen];omega
   have e2:((a::b::l).drop ((l.length+2) / 2)).length=l.length+2-(l.length+2) / 2:=by rw[List.length_drop,hlen]
   have h':l.length+2<=2*2^f:=by rw[hlen,Nat.pow_succ]at h;omega
   have g1:=ih (l:=(a::b::l).take ((l.length+2) / 2)) (by rw[e1];omega);have g2:=ih (l:=(a::b::l).drop ((l.length+2) / 2)) (by rw[e2];omega);rw[e1]at g1;rw[e2]at g2;rw[g1,g2];show some ((a::b::l).take ((l.length+2) / 2)++(a::b::l).drop ((l.length+2) / 2))=some _;rw[List.take_append_drop]
theorem AeG:∀{l:List Nat},GK Hz (l.map BO)=some l:=by
 intro l
 induction l with
 |nil=>rfl
 |cons a l ih=>
  show (GK Hz (l.map BO)).map (fun m=>a::m)=_;rw[ih];rfl
theorem Amm:∀{l:List Nat},GK HA (l.map mp')=some l:=by
 intro l
 induction l with
 |nil=>rfl
 |cons a l ih=>
  show (GK HA (l.map mp')).map (fun m=>a::m)=_;rw[ih];rfl
theorem Aji{g:Nat}{ns:List E}{rs ms bs:List Nat}(hg:g<10000)(h1:ns.length<100)(h2:rs.length<100)(h3:ms.length<100)(h4:bs.length<100):
 O6 (g+10000*ns.length+1000000*rs.length+100000000*ms.length+10000000000*bs.length) (.bin .lss .i64 (TV 12 ns) (.bin .lss .i64 (TV 12 (rs.map BO)) (.bin .lss .i64 (TV 12 (ms.map mp')) (TV 12 (bs.map BO)))))=some (ns,rs,ms,bs):=by
 refine Abr (lr:=rs.map BO) (lm:=ms.map mp') (lb:=bs.map BO) ?_ ?_ AeG ?_ Amm ?_ AeG
 ·rw[show (g+10000*ns.length+1000000*rs.length+100000000*ms.length+10000000000*bs.length) / 10000 % 100=ns.length by omega];exact Vq (f:=11) (by omega)
 ·rw[show (g+10000*ns.length+1000000*rs.length+100000000*ms.length+10000000000*bs.length) / 1000000 % 100=(rs.map BO).length by rw[List.length_map];omega];exact Vq (f:=11) (by rw[List.length_map];omega)
 ·rw[show (g+10000*ns.length+1000000*rs.length+100000000*ms.length+10000000000*bs.length) / 100000000 % 100=(ms.map mp').length by rw[List.length_map];omega];exact Vq (f:=11) (by rw[List.length_map];omega)
 ·rw[show (g+10000*ns.length+1000000*rs.length+100000000*ms.length+10000000000*bs.length) / 10000000000=(bs.map BO).length by rw[List.length_map];omega];exact Vq (f:=11) (by rw[List.length_map];omega)
theorem Aby{g:Nat}{ns:List E}{rs ms bs:List Nat}(hg:g<10000:=by decide)(h1:ns.length<100:=by first|decide|simp[qv,qr])(h2:rs.length<100:=by first|decide|simp[qv,qr])(h3:ms.length<100:=by first|decide|simp[qv,qr])(h4:bs.length<100:=by first|decide|simp):
 A2 U (AG g ns rs ms bs)↔Rr g (ns.map (E.den U)) (rs.map U.r) (ms.map U.m) (bs.map U.b):=by
 have hd:=Aji (bs:=bs) hg h1 h2 h3 h4;have hm:(g+10000*ns.length+1000000*rs.length+100000000*ms.length+10000000000*bs.length) % 10000=g:=by omega
 rw[EW rfl,DQ];constructor
 ·rintro ⟨c,p,e1,e2,e3⟩
  cases e1;have e2:O6 _ (.bin .lss .i64 (TV 12 ns) (.bin .lss .i64 (TV 12 (rs.map BO)) (.bin .lss .i64 (TV 12 (ms.map mp')) (TV 12 (bs.map BO)))))=some p:=e2;rw[hd]at e2;cases e2;rw[hm]at e3;exact e3
 ·intro h;exact⟨_,_,rfl,hd,by rw[hm];exact h⟩
theorem Az{g:Nat}{ns:List E}{rs ms bs:List Nat}(h:Rr g (ns.map (E.den U)) (rs.map U.r) (ms.map U.m) (bs.map U.b))(hg:g<10000:=by decide)(h1:ns.length<100:=by first|decide|simp[qv,qr])(h2:rs.length<100:=by first|decide|simp[qv,qr])(h3:ms.length<100:=by first|decide|simp[qv,qr])(h4:bs.length<100:=by first|decide|simp):A2 U (AG g ns rs ms bs):=(Aby hg h1 h2 h3 h4).2 h
theorem Af{g:Nat}{ns:List E}{rs ms bs:List Nat}(h:A2 U (AG g ns rs ms bs))(hg:g<10000:=by decide)(h1:ns.length<100:=by first|decide|simp[qv,qr])(h2:rs.length<100:=by first|decide|simp[qv,qr])(h3:ms.length<100:=by first|decide|simp[qv,qr])(h4:bs.length<100:=by first|decide|simp):Rr g (ns.map (E.den U)) (rs.map U.r) (ms.map U.m) (bs.map U.b):=(Aby hg h1 h2 h3 h4).1 h
theorem Dj{a:E}(h0:0<=a.den U)(h1:a.den U<=65535):(Iv a).den U=a.den U+1:=by
 show IntKind.i64.wrap (a.den U+1)=_;rw[IntKind.wrap_i64];omega
theorem rA0:A0.ok rlA[0]:=fun U _ _ _ _ _ _ _=>Az (g:=1) (ns:=[.lit 0,xv 0]) (rs:=[0]) (show EX 0 _ _ from fun j hj=>by omega)
theorem rA1:A0.ok rlA[1]:=fun U h _ _ _ _ _ _=>Az (g:=1) (ns:=[Iv (xv 0),xv 1]) (rs:=[0]) (show EX _ _ _ from fun j hj=>by
 have h0:EX (U 0) (U.r 0) (U 1):=Af (h.nth 0 rfl);have h1:U 1 ≠ numOf (U.r 0 (U 0).toNat 0):=eqF (h.nth 1 rfl);have h2:0<=U 0:=H2 (h.nth 2 rfl);have h3:U 0<=65535:=Ig (h.nth 3 rfl);rw[Dj (a:=xv 0) h2 h3]at hj;have hj:(j:Int)<U 0+1:=hj
 by_cases e:(j:Int)=U 0
 ·rw[<-e]at h1;exact fun e2=>h1 e2.symm
 ·exact h0 j (by omega))
theorem rA2:A0.ok rlA[2]:=fun U h _ _ _ _ _ _=>Az (g:=1) (ns:=[xv 0,xv 1]) (rs:=[0]) (show EX _ _ _ from fun j hj=>by
 have h0:EX (U 2) (U.r 0) (U 1):=Af (h.nth 0 rfl);have h1:U 0<=U 2:=Ig (h.nth 1 rfl);have hj:(j:Int)<U 0:=hj;exact h0 j (by omega))
theorem rA3:A0.ok rlA[3]:=fun U h _ _ _ _ _ _=>Az (g:=1) (ns:=[xv 0,xv 1]) (rs:=[0]) (show EX _ _ _ from fun j hj=>by
 have h1:U 0<=0:=Ig (h.nth 0 rfl);have hj:(j:Int)<U 0:=hj;omega)
theorem EA{q:Nat}(hq:q<8):(qv.map (E.den U)).getD q 0=U q:=by
 unfold qv;simp[Iw,List.getElem?_map,List.getElem?_range hq];rfl
theorem Jx{q:Nat}(hq:q<8):(qr.map U.r).getD q EB=U.r q:=by
 unfold qr;simp[Iw,List.getElem?_map,List.getElem?_range hq]
theorem Jy{q:Nat}{e:E}(hq:q<8):((qv++[e]).map (E.den U)).getD q 0=U q:=by
 rw[List.map_append,Iw,List.getElem?_append_left (by simp[qv];exact hq),<-Iw];exact EA hq
theorem Acw{e:E}:((qv++[e]).map (E.den U)).getD 8 0=e.den U:=rfl
theorem Gh{q k:Nat}{e:E}(hq:q<8)(hk:k<8):((qv.set k e).map (E.den U)).getD q 0=if q=k then e.den U else U q:=by
 rw[List.map_set,Iw,List.getElem?_set]
 by_cases h:k=q
 ·rw[if_pos h,if_pos h.symm,if_pos (by simp[qv];omega)];rfl
 ·rw[if_neg h,if_neg (fun e=>h e.symm),<-Iw];exact EA hq
theorem Ih{q k t:Nat}(hq:q<8)(hk:k<8):((qr.set k t).map U.r).getD q EB=if q=k then U.r t else U.r q:=by
 rw[List.map_set,Iw,List.getElem?_set]
 by_cases h:k=q
 ·rw[if_pos h,if_pos h.symm,if_pos (by simp[qr];omega)];rfl
 ·rw[if_neg h,if_neg (fun e=>h e.symm),<-Iw];exact Jx hq
theorem Rq:(A2 U (AG 2 qv qr))->QOK U.v U.r:=fun h=>by
 have h:QOK (fun q=>(qv.map (E.den U)).getD q 0) fun q=>(qr.map U.r).getD q EB:=Af h
 refine⟨fun q hq j hj=>?_,fun q hq q' Fu j j' hj He e=>?_⟩
 ·have:=h.1 q hq j (by simp only[EA hq];exact hj);simp only[Jx hq]at this;exact this
 ·exact h.2 q hq q' Fu j j' (by simp only[EA hq];exact hj) (by simp only[EA Fu];exact He) (by simp only[Jx hq,Jx Fu];exact e)
theorem rQ0:A0.ok rlQ[0]:=fun U _ _ _ _ _ _ _=>Az (g:=4) (ns:=.lit 7::xv 8::qv) (rs:=qr) (show ∀q:Nat,q<8->(7:Int)<(q:Int)->_ from fun q hq h=>by omega)
theorem rQ1:A0.ok rlQ[1]:=fun U h _ _ _ _ _ _=>Az (g:=3) (ns:=qv++[xv 8]) (rs:=qr) (show ∀q:Nat,q<8->_ from fun q hq=>by
 have h0:∀q:Nat,q<8->U 9<(q:Int)->EX ((qv.map (E.den U)).getD q 0) ((qr.map U.r).getD q EB) (U 8):=Af (h.nth 0 rfl)
 have h1:U 9<0:=RY (h.nth 1 rfl);rw[Acw,Jy hq];have:=h0 q hq (by omega);rw[EA hq]at this;exact this)
theorem rK1{k:Nat}(hk:k<8):A0.ok (ArL k):=fun U h _ _ _ _ _ _=>Az (g:=4) (ns:=.lit ((k:Int)-1)::xv 8::qv) (rs:=qr) (show ∀q:Nat,q<8->((k:Int)-1)<(q:Int)->_ from fun q hq Au=>by
 have h0:∀q:Nat,q<8->U 9<(q:Int)->EX ((qv.map (E.den U)).getD q 0) ((qr.map U.r).getD q EB) (U 8):=Af (h.nth 0 rfl)
 have h1:U 9=(k:Int):=Jj (h.nth 1 rfl);have h2:EX (U k) (U.r k) (U 8):=Af (h.nth 2 rfl)
 by_cases e:q=k
 ·subst e;rw[EA hq,Jx hq];exact h2
 ·exact h0 q hq (by omega))
theorem rK2{k:Nat}(hk:k<8):A0.ok (ArM k):=fun U h _ _ _ _ _ _=>Az (g:=5) (ns:=qv++[xv 8]) (rs:=qr) (show ∃q,q<8/\_ from by
 have h0:numOf (U.r k (U 9).toNat 0)=U 8:=Jj (h.nth 0 rfl);have h1:0<=U 9:=H2 (h.nth 1 rfl);have h2:U 9<U k:=RY (h.nth 2 rfl);refine⟨k,hk,(U 9).toNat,?_,?_⟩
 ·rw[Jy hk];omega
 ·rw[Jx hk,Acw];exact h0)
theorem rK3{k:Nat}(hk:k<8):A0.ok (ArN k):=fun U h _ ha _ _ _ _=>Az (g:=2) (ns:=qv.set k (Iv (xv k))) (rs:=qr.set k 20) (show QOK _ _ from by
 have h0:=Rq (h.nth 0 rfl);have h1:∀q,q<8->EX (((qv++[xv 8]).map (E.den U)).getD q 0) ((qr.map U.r).getD q EB) (((qv++[xv 8]).map (E.den U)).getD 8 0):=Af (h.nth 1 rfl)
 have h2:1<=U 8:=H2 (h.nth 2 rfl);have h3:U 8<=65535:=Ig (h.nth 3 rfl);have h4:0<=U k:=H2 (h.nth 4 rfl);have h5:U k<=65535:=Ig (h.nth 5 rfl);have ET:=(ha.mem ⟨k,[(xv k,0,.sym .i64 (xv 8))],20,[]⟩ GU).row;have hn:(Iv (xv k)).den U=U k+1:=Dj (a:=xv k) h4 h5;have C7:∀j:Nat,(j:Int)<U k+1->numOf (U.r 20 j 0)=if (j:Int)=U k then U 8 else numOf (U.r k j 0):=by
  intro j hj;have:=ET j 0;have this:U.r 20 j 0=match (if U k=(j:Int)/\(0:Nat)=0 then some (A.sym .i64 (xv 8)) else none) with |some a=>(a.val U).getD undef|none=>U.r k j 0:=this
  rw[this]
  by_cases e:(j:Int)=U k
  ·rw[if_pos ⟨e.symm,rfl⟩,if_pos e];rfl
  ·rw[if_neg (fun h=>e h.1.symm),if_neg e]
 have hx:∀q,q<8->∀j:Nat,(j:Int)<U q->numOf (U.r q j 0) ≠ U 8:=by
  intro q hq j hj;have:=h1 q hq j (by rw[Jy hq];exact hj);rw[Jx hq,Acw]at this;exact this
 refine⟨fun q hq j hj=>?_,fun q hq q' Fu j j' hj He e=>?_⟩
 ·simp only[Gh hq hk,Ih hq hk]at hj ⊢
  by_cases e:q=k
  ·rw[if_pos e]at hj ⊢;rw[hn]at hj;rw[C7 j hj];split
   ·exact⟨h2,h3⟩
   ·exact h0.1 k hk j (by omega)
  ·rw[if_neg e]at hj ⊢;exact h0.1 q hq j hj
 ·simp only[Gh hq hk,Gh Fu hk,Ih hq hk,Ih Fu hk]at hj He e
  by_cases e1:q=k
  ·by_cases e2:q'=k
   ·rw[if_pos e1,hn]at hj;rw[if_pos e2,hn]at He;rw[if_pos e1,if_pos e2,C7 j hj,C7 j' He]at e;refine⟨e1.trans e2.symm,?_⟩;split at e
    ·split at e
     ·omega
     ·exact (hx k hk j' (by omega) e.symm).elim
    ·split at e
     ·exact (hx k hk j (by omega) e).elim
     ·exact (h0.2 k hk k hk j j' (by omega) (by omega) e).2
   ·rw[if_pos e1,hn]at hj;rw[if_neg e2]at He;rw[if_pos e1,if_neg e2,C7 j hj]at e;split at e
    ·exact (hx q' Fu j' He e.symm).elim
    ·exact absurd (h0.2 k hk q' Fu j j' (by omega) He e).1.symm e2
  ·by_cases e2:q'=k
   ·rw[if_neg e1]at hj;rw[if_pos e2,hn]at He;rw[if_neg e1,if_pos e2,C7 j' He]at e;split at e
    ·exact (hx q hq j hj e).elim
    ·exact absurd (h0.2 q hq k hk j j' hj (by omega) e).1 e1
   ·rw[if_neg e1]at hj;rw[if_neg e2]at He;rw[if_neg e1,if_neg e2]at e;exact h0.2 q hq q' Fu j j' hj He e)
theorem rK4{k:Nat}(hk:k<8):A0.ok (ArO k):=fun U h _ _ _ _ _ _=>Az (g:=2) (ns:=qv.set k (xv 10)) (rs:=qr.set k 20) (show QOK _ _ from by
 have h0:=Rq (h.nth 0 rfl);have h1:∀(j c:Nat),U.r 20 j c=if (j:Int)<U 9 then U.r k j c else U.r k (j+1) c:=Af (h.nth 1 rfl)
 have h2:0<=U 9:=H2 (h.nth 2 rfl);have h3:U 9<U k:=RY (h.nth 3 rfl);have h4:U k<=65535:=Ig (h.nth 4 rfl);have h5:U 10=IntKind.i64.wrap (U k-1):=Jj (h.nth 5 rfl);rw[IntKind.wrap_i64]at h5;have h5:U 10=U k-1:=by omega
 have C7:∀j:Nat,∃j':Nat,U.r 20 j 0=U.r k j' 0/\((j:Int)<U 10->(j':Int)<U k)/\j'=if (j:Int)<U 9 then j else j+1:=by
  intro j;refine⟨if (j:Int)<U 9 then j else j+1,?_,?_,rfl⟩
  ·rw[h1 j 0];split<;>rfl
  ·split<;>omega
 refine⟨fun q hq j hj=>?_,fun q hq q' Fu j j' hj He e=>?_⟩
 ·simp only[Gh hq hk,Ih hq hk]at hj ⊢
  by_cases e:q=k
  ·rw[if_pos e]at hj ⊢;have hj:(j:Int)<U 10:=hj;obtain⟨j',g1,g2,_⟩:=C7 j;rw[g1];exact h0.1 k hk j' (g2 hj)
  ·rw[if_neg e]at hj ⊢;exact h0.1 q hq j hj
 ·simp only[Gh hq hk,Gh Fu hk,Ih hq hk,Ih Fu hk]at hj He e;obtain⟨i,g1,g2,g3⟩:=C7 j;obtain⟨i',g1',g2',g3'⟩:=C7 j'
  by_cases e1:q=k
  ·rw[if_pos e1]at hj e;have hj:(j:Int)<U 10:=hj;rw[g1]at e
   by_cases e2:q'=k
   ·rw[if_pos e2]at He e;have He:(j':Int)<U 10:=He;rw[g1']at e;have:=(h0.2 k hk k hk i i' (g2 hj) (g2' He) e).2;refine⟨e1.trans e2.symm,?_⟩;rw[g3,g3']at this;split at this<;>split at this<;>omega
   ·rw[if_neg e2]at He e;exact absurd (h0.2 k hk q' Fu i j' (g2 hj) He e).1.symm e2
  ·rw[if_neg e1]at hj e
   by_cases e2:q'=k
   ·rw[if_pos e2]at He e;have He:(j':Int)<U 10:=He;rw[g1']at e;exact absurd (h0.2 q hq k hk j i' hj (g2' He) e).1 e1
   ·rw[if_neg e2]at He e;exact h0.2 q hq q' Fu j j' hj He e)
theorem VX:∀(m n:Nat) (f:Nat->Int),(∀j,j<n->1<=f j/\f j<=(m:Int))->(∀i j,i<n->j<n->f i=f j->i=j)->n<=m:=by
 intro m
 induction m with
 |zero=>intro n f h _;rcases Nat.eq_zero_or_pos n with e|e;· omega
        ·have:=h 0 e;omega
 |succ m ih=>
  intro n f h g
  by_cases hx:∃j,j<n/\f j=((m+1:Nat):Int)
  ·obtain⟨j0,hj0,e0⟩:=hx;have:=ih (n-1) (fun j=>if j<j0 then f j else f (j+1)) (fun j hj=>by
    show 1<=(if j<j0 then f j else f (j+1))/\(if j<j0 then f j else f (j+1))<=(m:Int);split
    ·have h1:=h j (by omega);have:f j ≠ ((m+1:Nat):Int):=fun e=>by have:=g j j0 (by omega) hj0 (e.trans e0.symm);omega
     omega
    ·have h1:=h (j+1) (by omega);have:f (j+1) ≠ ((m+1:Nat):Int):=fun e=>by have:=g (j+1) j0 (by omega) hj0 (e.trans e0.symm);omega
     omega) (fun i j hi hj e=>by
    have e:(if i<j0 then f i else f (i+1))=(if j<j0 then f j else f (j+1)):=e;split at e<;>split at e
    ·exact g i j (by omega) (by omega) e
    ·have:=g i (j+1) (by omega) (by omega) e;omega
    ·have:=g (i+1) j (by omega) (by omega) e;omega
    ·have:=g (i+1) (j+1) (by omega) (by omega) e;omega)
   omega
  ·have:=ih n f (fun j hj=>by
    have h1:=h j hj;have:f j ≠ ((m+1:Nat):Int):=fun e=>hx ⟨j,hj,e⟩
    omega) g
   omega
theorem rK5{k:Nat}(hk:k<8):A0.ok (ArP k):=fun U h _ _ _ _ _ _=>Hg (show U k<=65535 from by
 have h0:=Rq (h.nth 0 rfl);have:=VX 65535 (U k).toNat (fun j=>numOf (U.r k j 0)) (fun j hj=>h0.1 k hk j (by omega)) (fun i j hi hj e=>(h0.2 k hk k hk i j (by omega) (by omega) e).2);omega)
theorem Ls{l m:List E}{e:E}(hl:l.length=8)(hm:m.length=8){q:Nat}(hq:q<8):((l++m++[e]).map (E.den U)).getD q 0=(l.map (E.den U)).getD q 0:=by
 rw[List.append_assoc,List.map_append,Iw,List.getElem?_append_left (by simp;omega),<-Iw]
theorem IK{l m:List E}{e:E}(hl:l.length=8)(hm:m.length=8){q:Nat}(hq:q<8):((l++m++[e]).map (E.den U)).getD (8+q) 0=(m.map (E.den U)).getD q 0:=by
 rw[List.append_assoc,List.map_append,Iw,List.getElem?_append_right (by simp;omega),List.map_append,List.getElem?_append_left (by simp;omega),<-Iw]
 congr 1
 simp[hl]
theorem Abb{l m:List E}{e:E}(hl:l.length=8)(hm:m.length=8):((l++m++[e]).map (E.den U)).getD 16 0=e.den U:=by
 rw[List.map_append,Iw,List.getElem?_append_right (by simp;omega)];simp[hl,hm]
theorem Ww{l m:List Nat}(hl:l.length=8){q:Nat}(hq:q<8):((l++m).map U.r).getD q EB=(l.map U.r).getD q EB:=by
 rw[List.map_append,Iw,List.getElem?_append_left (by simp;omega),<-Iw]
theorem SZ{l m:List Nat}(hl:l.length=8){q:Nat}:((l++m).map U.r).getD (8+q) EB=(m.map U.r).getD q EB:=by
 rw[List.map_append,Iw,List.getElem?_append_right (by simp;omega),<-Iw]
 congr 1
 simp[hl]
theorem HG:qv.length=8:=by simp[qv]
theorem Wh:qr.length=8:=by simp[qr]
theorem Gi{k:Nat}{e:E}:(qv.set k e).length=8:=by rw[List.length_set];exact HG
theorem CE{n n':Nat->Int}(h:∀q,q<8->n q=n' q):C4 n=C4 n':=by
 unfold C4;rw[h 0 (by decide),h 1 (by decide),h 2 (by decide),h 3 (by decide),h 4 (by decide),h 5 (by decide),h 6 (by decide),h 7 (by decide)]
theorem lt8{k:Nat}(hk:k<8):k=0\/k=1\/k=2\/k=3\/k=4\/k=5\/k=6\/k=7:=by omega
theorem YG{n:Nat->Int}{k:Nat}{v:Int}(hk:k<8):C4 (fun q=>if q=k then v else n q)=C4 n+v-n k:=by
 unfold C4;rcases lt8 hk with rfl|rfl|rfl|rfl|rfl|rfl|rfl|rfl<;>simp<;>omega
theorem PA{n:Nat->Int}{k:Nat}(hk:k<8):Cq n ((k:Int)-1)=Cq n k+n k:=by
 unfold Cq;rcases lt8 hk with rfl|rfl|rfl|rfl|rfl|rfl|rfl|rfl<;>simp<;>omega
theorem AdT{n:Nat->Int}{p:Int}(hp:p<0):Cq n p=C4 n:=by
 unfold Cq C4;rw[if_pos hp,if_pos (by omega),if_pos (by omega),if_pos (by omega),if_pos (by omega),if_pos (by omega),if_pos (by omega),if_pos (by omega)]
theorem AdS{n:Nat->Int}(h:∀q,q<8->0<=n q){k:Nat}(hk:k<8):Cq n k+n k<=C4 n:=by
 have h0:=h 0 (by decide);have h1:=h 1 (by decide);have h2:=h 2 (by decide);have h3:=h 3 (by decide);have h4:=h 4 (by decide);have h5:=h 5 (by decide);have h6:=h 6 (by decide);have h7:=h 7 (by decide);unfold Cq C4;rcases lt8 hk with rfl|rfl|rfl|rfl|rfl|rfl|rfl|rfl<;>simp<;>omega
def JS(n:Nat->Int)(r:Nat->Rw):List Int:=(List.range 8).flatMap fun q=>(List.range (n q).toNat).map fun j=>numOf (r q j 0)
theorem TX{n:Nat->Int}{r:Nat->Rw}(h:∀q,q<8->0<=n q):((JS n r).length:Int)=C4 n:=by
 have h0:=h 0 (by decide);have h1:=h 1 (by decide);have h2:=h 2 (by decide);have h3:=h 3 (by decide);have h4:=h 4 (by decide);have h5:=h 5 (by decide);have h6:=h 6 (by decide);have h7:=h 7 (by decide);have e:List.range 8=[0,1,2,3,4,5,6,7]:=by decide
 unfold JS C4;rw[e];simp only[List.flatMap_cons,List.flatMap_nil,List.length_append,List.length_map,List.length_range,List.length_nil];omega
theorem Pu{n:Nat->Int}{r:Nat->Rw}(h:QOK n r):(JS n r).Nodup:=by
 unfold JS List.Nodup;rw[List.pairwise_flatMap];constructor
 ·intro q hq;have hq:=List.mem_range.1 hq;rw[List.pairwise_map];refine List.Pairwise.imp_of_mem ?_ (List.pairwise_lt_range (n:=(n q).toNat));intro a b ha hb Au e;have ha:=List.mem_range.1 ha;have hb:=List.mem_range.1 hb;have:=(h.2 q hq q hq a b (by omega) (by omega) e).2;omega
 ·refine List.Pairwise.imp_of_mem ?_ (List.pairwise_lt_range (n:=8));intro a b ha hb Au x hx y hy e;obtain⟨i,hi,e1⟩:=List.mem_map.1 hx;obtain⟨j,hj,e2⟩:=List.mem_map.1 hy;have hi:=List.mem_range.1 hi;have hj:=List.mem_range.1 hj;have:=(h.2 a (List.mem_range.1 ha) b (List.mem_range.1 hb) i j (by omega) (by omega) (by rw[e1,e2,e])).1;omega
theorem Akc{n:Nat->Int}{r:Nat->Rw}(h:QOK n r)(hn:∀q,q<8->0<=n q):C4 n<=65535:=by
 have hl:=TX (r:=r) hn;have hnd:=Pu h;have:=VX 65535 (JS n r).length (fun j=>(JS n r).getD j 0) (fun j hj=>by
  have hm:(JS n r).getD j 0∈JS n r:=by
   rw[Iw,List.getElem?_eq_getElem hj];exact List.getElem_mem hj
  obtain⟨q,hq,hx⟩:=List.mem_flatMap.1 hm;obtain⟨i,hi,e⟩:=List.mem_map.1 hx;have hi:=List.mem_range.1 hi;have:=h.1 q (List.mem_range.1 hq) i (by omega);rw[e]at this;exact this) (fun i j hi hj e=>by
  have e:(JS n r).getD i 0=(JS n r).getD j 0:=e;rw[Iw,Iw,List.getElem?_eq_getElem hi,List.getElem?_eq_getElem hj]at e;have hp:=List.pairwise_iff_getElem.1 hnd;rcases Nat.lt_trichotomy i j with h|h|h
  ·exact (hp i j hi hj h e).elim
  ·exact h
  ·exact (hp j i hj hi h e.symm).elim)
 omega
theorem DJ{n n':Nat->Int}{r r':Nat->Rw}{x:Int}(hn:∀q,q<8->n q=n' q)(hr:∀q,q<8->r q=r' q):CN n r x↔CN n' r' x:=by
 constructor
 ·rintro ⟨q,hq,j,hj,e⟩;exact⟨q,hq,j,by rw[<-hn q hq];exact hj,by rw[<-hr q hq];exact e⟩
 ·rintro ⟨q,hq,j,hj,e⟩;exact⟨q,hq,j,by rw[hn q hq];exact hj,by rw[hr q hq];exact e⟩
theorem rK6{k:Nat}(hk:k<8):A0.ok (ArQ k):=fun U h _ ha _ _ _ _=>Az (g:=8) (ns:=qv++qv.set k (Iv (xv k))++[xv 8]) (rs:=qr++qr.set k 20) (show (∀x,_↔_)/\_=_ from by
 have h4:0<=U k:=H2 (h.nth 0 rfl);have h5:U k<=65535:=Ig (h.nth 1 rfl);have ET:=(ha.mem ⟨k,[(xv k,0,.sym .i64 (xv 8))],20,[]⟩ GU).row;have hn:(Iv (xv k)).den U=U k+1:=Dj (a:=xv k) h4 h5;have C7:∀j:Nat,numOf (U.r 20 j 0)=if (j:Int)=U k then U 8 else numOf (U.r k j 0):=by
  intro j;have:=ET j 0;have this:U.r 20 j 0=match (if U k=(j:Int)/\(0:Nat)=0 then some (A.sym .i64 (xv 8)) else none) with |some a=>(a.val U).getD undef|none=>U.r k j 0:=this
  rw[this]
  by_cases e:(j:Int)=U k
  ·rw[if_pos ⟨e.symm,rfl⟩,if_pos e];rfl
  ·rw[if_neg (fun h=>e h.1.symm),if_neg e]
 constructor
 ·intro x;rw[DJ (n':=fun q=>if q=k then U k+1 else U q) (r':=fun q=>if q=k then U.r 20 else U.r q) (fun q hq=>by rw[IK HG Gi hq,Gh hq hk,hn]) (fun q hq=>by rw[SZ Wh,Ih hq hk]),
   DJ (n:=fun q=>((qv++qv.set k (Iv (xv k))++[xv 8]).map (E.den U)).getD q 0) (n':=U.v) (r':=U.r) (fun q hq=>by rw[Ls HG Gi hq,EA hq]) (fun q hq=>by rw[Ww Wh hq,Jx hq]),Abb HG Gi]
  constructor
  ·rintro ⟨q,hq,j,hj,e⟩
   by_cases e1:q=k
   ·simp only[if_pos e1]at hj e;rw[C7 j]at e;split at e
    ·exact .inr e.symm
    ·exact .inl ⟨k,hk,j,by omega,e⟩
   ·simp only[if_neg e1]at hj e;exact .inl ⟨q,hq,j,hj,e⟩
  ·rintro (⟨q,hq,j,hj,e⟩|e)
   ·by_cases e1:q=k
    ·refine⟨k,hk,j,?_,?_⟩
     ·simp only[if_true];subst e1;omega
     ·simp only[if_true];rw[C7 j,if_neg (by subst e1;omega)];rw[<-e1];exact e
    ·exact⟨q,hq,j,by simp only[if_neg e1];exact hj,by simp only[if_neg e1];exact e⟩
   ·refine⟨k,hk,(U k).toNat,?_,?_⟩
    ·simp only[if_true];omega
    ·simp only[if_true];rw[C7,if_pos (by omega)];exact e.symm
 ·rw[CE (n':=fun q=>if q=k then U k+1 else U q) (fun q hq=>by rw[IK HG Gi hq,Gh hq hk,hn]),YG hk,CE (n:=fun q=>((qv++qv.set k (Iv (xv k))++[xv 8]).map (E.den U)).getD q 0) (n':=U.v) (fun q hq=>by rw[Ls HG Gi hq,EA hq])];omega)
theorem rK7{k:Nat}(hk:k<8):A0.ok (ArR k):=fun U h _ _ _ _ _ _=>Az (g:=9) (ns:=qv++qv.set k (xv 10)++[xv 8]) (rs:=qr++qr.set k 20) (show (∀x,_↔_)/\_=_ from by
 have h0:=Rq (h.nth 0 rfl);have h1:∀(j c:Nat),U.r 20 j c=if (j:Int)<U 9 then U.r k j c else U.r k (j+1) c:=Af (h.nth 1 rfl)
 have hx:numOf (U.r k (U 9).toNat 0)=U 8:=Jj (h.nth 2 rfl);have h2:0<=U 9:=H2 (h.nth 3 rfl);have h3:U 9<U k:=RY (h.nth 4 rfl);have h4:U k<=65535:=Ig (h.nth 5 rfl);have h5:U 10=IntKind.i64.wrap (U k-1):=Jj (h.nth 6 rfl);rw[IntKind.wrap_i64]at h5;have h5:U 10=U k-1:=by omega
 constructor
 ·intro x;rw[DJ (n':=fun q=>if q=k then U 10 else U q) (r':=fun q=>if q=k then U.r 20 else U.r q) (fun q hq=>by rw[IK HG Gi hq,Gh hq hk];rfl) (fun q hq=>by rw[SZ Wh,Ih hq hk]),
   DJ (n:=fun q=>((qv++qv.set k (xv 10)++[xv 8]).map (E.den U)).getD q 0) (n':=U.v) (r':=U.r) (fun q hq=>by rw[Ls HG Gi hq,EA hq]) (fun q hq=>by rw[Ww Wh hq,Jx hq]),Abb HG Gi]
  constructor
  ·rintro ⟨q,hq,j,hj,e⟩
   by_cases e1:q=k
   ·simp only[if_pos e1]at hj e;rw[h1 j 0]at e;split at e
    ·refine⟨⟨k,hk,j,by omega,e⟩,fun e2=>?_⟩;have e2:x=U 8:=e2;have:=(h0.2 k hk k hk j (U 9).toNat (by omega) (by omega) (by rw[e,hx,e2])).2;omega
    ·refine⟨⟨k,hk,j+1,by omega,e⟩,fun e2=>?_⟩;have e2:x=U 8:=e2;have:=(h0.2 k hk k hk (j+1) (U 9).toNat (by omega) (by omega) (by rw[e,hx,e2])).2;omega
   ·simp only[if_neg e1]at hj e;refine⟨⟨q,hq,j,hj,e⟩,fun e2=>?_⟩;have e2:x=U 8:=e2;exact e1 (h0.2 q hq k hk j (U 9).toNat hj (by omega) (by rw[e,hx,e2])).1
  ·rintro ⟨⟨q,hq,j,hj,e⟩,Bs⟩
   by_cases e1:q=k
   ·subst e1;have hj9:(j:Int) ≠ U 9:=fun e2=>Bs (by
     show x=U 8;rw[<-hx,<-e,<-e2];rfl)
    by_cases Au:(j:Int)<U 9
    ·refine⟨q,hk,j,?_,?_⟩
     ·simp only[if_true];omega
     ·simp only[if_true];rw[h1 j 0,if_pos Au];exact e
    ·refine⟨q,hk,j-1,?_,?_⟩
     ·simp only[if_true];omega
     ·simp only[if_true];rw[h1 (j-1) 0,if_neg (by omega),show j-1+1=j by omega];exact e
   ·exact⟨q,hq,j,by simp only[if_neg e1];exact hj,by simp only[if_neg e1];exact e⟩
 ·rw[CE (n':=fun q=>if q=k then U 10 else U q) (fun q hq=>by rw[IK HG Gi hq,Gh hq hk];rfl),YG hk,CE (n:=fun q=>((qv++qv.set k (xv 10)++[xv 8]).map (E.den U)).getD q 0) (n':=U.v) (fun q hq=>by rw[Ls HG Gi hq,EA hq])];omega)
theorem NQ{n n':Nat->Int}{p:Int}(h:∀q,q<8->n q=n' q):Cq n p=Cq n' p:=by
 unfold Cq;rw[h 0 (by decide),h 1 (by decide),h 2 (by decide),h 3 (by decide),h 4 (by decide),h 5 (by decide),h 6 (by decide),h 7 (by decide)]
theorem f11{p m:E}(h:A2 U (AG 11 (p::m::qv))):m.den U=Cq U.v (p.den U):=by
 have h:m.den U=Cq (fun q=>(qv.map (E.den U)).getD q 0) (p.den U):=Af h;rw[h];exact NQ fun q hq=>EA hq
theorem ZW{p m:E}(h:m.den U=Cq U.v (p.den U)):A2 U (AG 11 (p::m::qv)):=Az (g:=11) (ns:=p::m::qv) (show m.den U=Cq (fun q=>(qv.map (E.den U)).getD q 0) (p.den U) from by
 rw[h];exact (NQ fun q hq=>EA hq).symm)
theorem rK9{k:Nat}(hk:k<8):A0.ok (ArT k):=fun U h _ _ _ _ _ _=>ZW (by
 have h0:U 10=Cq U.v (U 9):=f11 (h.nth 0 rfl);have h1:U 9=(k:Int):=Jj (h.nth 1 rfl);have h2:0<=U 10:=H2 (h.nth 2 rfl);have h3:U 10<=65535:=Ig (h.nth 3 rfl);have h4:0<=U k:=H2 (h.nth 4 rfl);have h5:U k<=65535:=Ig (h.nth 5 rfl);show IntKind.i64.wrap (U 10+U k)=Cq U.v ((k:Int)-1);rw[IntKind.wrap_i64,PA hk,<-h1,<-h0];omega)
theorem rK8{k:Nat}(hk:k<8):A0.ok (ArS k):=fun U h _ _ _ _ _ _=>ZW (by
 have h0:U 10=Cq U.v (U 9):=f11 (h.nth 0 rfl);have h1:U 9=(k:Int):=Jj (h.nth 1 rfl);have h4:U k<=0:=Ig (h.nth 2 rfl);have h5:0<=U k:=H2 (h.nth 3 rfl);show U 10=Cq U.v ((k:Int)-1);rw[PA hk,<-h1,<-h0];omega)
theorem ArE{c k:Nat}(hc:65535<=c)(hk:k<8):A0.ok (Ahr c k):=fun U h _ _ _ _ _ _=>Hg (by
 have h0:U 10=Cq U.v (U 9):=f11 (h.nth 0 rfl);have h2:=Rq (h.nth 1 rfl);have h1:U 9=(k:Int):=Jj (h.nth 2 rfl);have hn:∀q,q<8->0<=U q:=fun q hq=>H2 (h.mem ⟨.geq,xv q,.lit 0,true⟩ (List.mem_append_right _ (List.mem_map.2 ⟨q,List.mem_range.2 hq,rfl⟩)))
 have h3:=AdS hn hk;have h4:=Akc h2 hn;have h5:=hn k hk;have h6:0<=Cq U.v (k:Int):=by
  have h0:=hn 0 (by decide);have h1:=hn 1 (by decide);have h2:=hn 2 (by decide);have h3:=hn 3 (by decide);have h4:=hn 4 (by decide);have h5:=hn 5 (by decide);have h6:=hn 6 (by decide);have h7:=hn 7 (by decide);unfold Cq;rcases lt8 hk with rfl|rfl|rfl|rfl|rfl|rfl|rfl|rfl<;>simp<;>omega
 rw[h1]at h0;show IntKind.i64.wrap (U 10+U k)<=(c:Int);rw[IntKind.wrap_i64];omega)
theorem rT0:A0.ok rlT[0]:=fun U _ _ _ _ _ _ _=>ZW (show (0:Int)=Cq U.v 7 from by simp[Cq])
theorem rT1:A0.ok rlT[1]:=fun U h _ _ _ _ _ _=>Az (g:=10) (ns:=qv++[xv 10]) (show _=C4 _ from by
 have h0:U 10=Cq U.v (U 9):=f11 (h.nth 0 rfl);have h1:U 9<0:=RY (h.nth 1 rfl);rw[Acw,CE (n':=U.v) (fun q hq=>Jy hq)];show U 10=_;rw[h0,AdT h1])
theorem Al.HH{f:Nat->A0}(h:∀{k},k<8->(f k).ok):Al A0.ok ((List.range 8).map f):=Al.Cx fun x hx=>by
 obtain⟨k,hk,e⟩:=List.mem_map.1 hx;rw[<-e];exact h (List.mem_range.1 hk)
theorem Aop:Al A0.ok rlX:=Al.append (.cons rA0 (.cons rA1 (.cons rA2 (.cons rA3 .nil)))) (Al.append (.cons rQ0 (.cons rQ1 .nil)) (Al.append (Al.HH rK1) (Al.append (Al.HH rK2) (Al.append (Al.HH rK3) (Al.append (Al.HH rK4) (Al.append (Al.HH rK5)
 (Al.append (Al.HH rK6) (Al.append (Al.HH rK7) (Al.append (Al.HH rK9) (Al.append (Al.HH rK8) (Al.append (Al.HH (ArE (by decide))) (Al.append (Al.HH (ArE (by decide))) (.cons rT0 (.cons rT1 .nil))))))))))))))
theorem Wv{a c:Nat}(hc:c<24):((Tj a).map (E.den U)).getD c 0=U (a+c):=by
 unfold Tj;simp[Iw,List.getElem?_map,List.getElem?_range hc];rfl
theorem AeD{a c:Nat}(hc:c<24)(hi:RK c=true):Dm (some (Value.agg ((Z3 a GS).map fun x=>(x.val U).getD undef).toArray)) c=U (a+c):=by
 have hlen:GS.length=24:=by simp[GS]
 show (match ((Z3 a GS).map fun x=>(x.val U).getD undef).toArray[c]? with |some v=>numOf v|none=>0)=_;rw[List.getElem?_toArray,List.getElem?_map,show (Z3 a GS)[c]? =some (match GS.getD c .u with |.i k=>.sym k (.var (a+c))|.b=>.sb (.var (a+c))|_=>.B7) from by
  unfold Z3;rw[List.getElem?_map,List.getElem?_zipIdx];have:GS[c]? =some (GS.getD c .u):=by rw[Iw,List.getElem?_eq_getElem (by omega)];rfl
  rw[this];simp only[Option.map_some,Nat.zero_add]]
 unfold RK at hi;split at hi
 ·rename_i k e;rw[e];rfl
 ·cases hi
theorem AhM{e:Nat->E}(h:∀f∈AcC e,A2 U f):WN fun c=>(e c).den U:=by
 unfold AcC at h;simp only[List.forall_mem_cons]at h;obtain⟨h1,h2,h3,h4,h5,h6,h7,h8,h9,RF,_⟩:=h;exact⟨H2 h1,Ig h2,H2 h3,Ig h4,H2 h5,H2 h6,H2 h7,Ig h8,H2 h9,Ig RF⟩
theorem rM0:A0.ok ArU:=fun U _ _ _ _ hm _ _=>Az (g:=58) (ns:=xv 0::Tj 1) (rs:=[]) (ms:=[0,1]) (show Put (U.m 0) (U.m 1) (U 0) _ from by
 have:=(hm.mem ⟨0,[(xv 0,some (.agg (Z3 1 GS)))],1⟩ GU).map;refine⟨_,fun c hc hi=>(AeD (a:=1) hc hi).trans (Wv hc).symm,fun y=>?_⟩;have h:=this y;have h:U.m 1 y=match (if U 0=y then some (some (V.agg (Z3 1 GS))) else none) with |some (some v)=>v.val U|some none=>none|none=>U.m 0 y:=h
 rw[h]
 by_cases e:y=U 0
 ·rw[if_pos e,if_pos e.symm];rfl
 ·rw[if_neg e,if_neg fun e2=>e e2.symm])
theorem rM1:A0.ok ArV:=fun U _ _ _ _ hm _ _=>Az (g:=59) (ns:=[xv 0]) (rs:=[]) (ms:=[0,1]) (show UT (U.m 0) (U.m 1) (U 0) from by
 have:=(hm.mem ⟨0,[(xv 0,none)],1⟩ GU).map;intro y;have h:=this y;have h:U.m 1 y=match (if U 0=y then some (none:Option V) else none) with |some (some v)=>v.val U|some none=>none|none=>U.m 0 y:=h
 rw[h]
 by_cases e:y=U 0
 ·rw[if_pos e,if_pos e.symm]
 ·rw[if_neg e,if_neg fun e2=>e e2.symm])
theorem rM2:A0.ok ArW:=fun U _ _ _ _ _ _ hr=>Az (g:=60) (ns:=[xv 0]) (rs:=[]) (ms:=[0]) (show U.m 0 (U 0)=none from by
 have:=hr.mem (0,xv 0,false) GU;have this:(U.m 0 (U 0)).isSome=false:=this;cases h:U.m 0 (U 0) with
 |none=>rfl
 |some u=>rw[h]at this;cases this)
theorem rM3:A0.ok ArX:=fun U _ _ _ _ _ _ hr=>Az (g:=61) (ns:=[xv 0]) (rs:=[]) (ms:=[0]) (show (U.m 0 (U 0)).isSome=true from hr.mem (0,xv 0,true) GU)
theorem rM4{i:Nat}(hi:i<10):A0.ok (ArY i):=fun U h _ _ _ _ _ _=>by
 have h0:QS (U.m 0):=Af (h.nth 0 rfl);have h1:(U.m 0 (U 0)).isSome=true:=Af (h.nth 1 rfl);obtain⟨_,_,g1,g2,g3,g4,g5,g6,g7,g8,g9,g10⟩:=h0 _ h1;have:i=0\/i=1\/i=2\/i=3\/i=4\/i=5\/i=6\/i=7\/i=8\/i=9:=by omega
 rcases this with rfl|rfl|rfl|rfl|rfl|rfl|rfl|rfl|rfl|rfl
 ·exact FN g1
 ·exact Hg g2
 ·exact FN g3
 ·exact Hg g4
 ·exact FN g5
 ·exact FN g6
 ·exact FN g7
 ·exact Hg g8
 ·exact FN g9
 ·exact Hg g10
theorem AuT:A0.ok Ahs[0]:=fun U h _ _ _ _ _ _=>by
 have h0:QS (U.m 0):=Af (h.nth 0 rfl);have h1:(U.m 0 (U 0)).isSome=true:=Af (h.nth 1 rfl);exact AnH (h0 _ h1).1
theorem AuU:A0.ok Ahs[1]:=fun U h _ _ _ _ _ _=>by
 have h0:QS (U.m 0):=Af (h.nth 0 rfl);have h1:(U.m 0 (U 0)).isSome=true:=Af (h.nth 1 rfl);exact FN (h0 _ h1).2.1
theorem AuV:A0.ok Ahs[2]:=fun U h _ _ _ _ _ _=>Az (g:=50) (ns:=[]) (rs:=[]) (ms:=[1]) (show QS (U.m 1) from by
 obtain⟨u,g1,g2⟩:Put (U.m 0) (U.m 1) (U 0) fun c=>((Tj 1).map (E.den U)).getD c 0:=Af (h.nth 0 rfl)
 have h0:QS (U.m 0):=Af (h.nth 1 rfl);have h2:U 1=U 0:=Jj (h.nth 2 rfl);have h3:1<=U 0:=H2 (h.nth 3 rfl);have h4:WN fun c=>U (c+1):=AhM (e:=fun c=>xv (c+1)) fun f hf=>h.mem f (List.mem_append_right _ hf)
 have g1:∀c,c<24->RK c=true->Dm (some u) c=U (c+1):=fun c hc hi=>(g1 c hc hi).trans ((Wv hc).trans (by rw[Nat.add_comm]))
 intro z hz;rw[g2 z]at hz ⊢
 by_cases e:z=U 0
 ·rw[if_pos e];refine⟨(g1 0 (by decide) rfl).trans (h2.trans e.symm),by omega,?_⟩;obtain⟨k1,k2,k3,k4,k5,k6,k7,k8,k9,k10⟩:=h4;unfold WN
  dsimp only
  rw[g1 1 (by decide) rfl,g1 2 (by decide) rfl,g1 9 (by decide) rfl,g1 10 (by decide) rfl,g1 16 (by decide) rfl,g1 17 (by decide) rfl];exact⟨k1,k2,k3,k4,k5,k6,k7,k8,k9,k10⟩
 ·rw[if_neg e]at hz ⊢;exact h0 z hz)
theorem AuW:A0.ok Ahs[3]:=fun U h _ _ _ _ _ _=>Az (g:=50) (ns:=[]) (rs:=[]) (ms:=[1]) (show QS (U.m 1) from by
 have g2:UT (U.m 0) (U.m 1) (U 0):=Af (h.nth 0 rfl);have h0:QS (U.m 0):=Af (h.nth 1 rfl);intro z hz;rw[g2 z]at hz ⊢
 by_cases e:z=U 0
 ·rw[if_pos e]at hz;cases hz
 ·rw[if_neg e]at hz ⊢;exact h0 z hz)
theorem Aoj:Al A0.ok rlM:=.cons rM0 (.cons rM1 (.cons rM2 (.cons rM3 (Al.append (Al.Cx fun x hx=>by
 obtain⟨k,hk,e⟩:=List.mem_map.1 hx;rw[<-e];exact rM4 (List.mem_range.1 hk)) (.cons AuT (.cons AuU (.cons AuV (.cons AuW .nil))))))))
theorem rN0:A0.ok Asa:=fun U h _ _ _ _ _ hr=>by
 have h0:KeysOf (U 0) (U.r 0) (U.m 0):=Af (h.nth 0 rfl);have h1:0<=U 1:=H2 (h.nth 1 rfl);have h2:U 1<U 0:=RY (h.nth 2 rfl);have h3:(U.m 0 (numOf (U.r 0 (U 1).toNat 0))).isSome=false:=hr.mem (0,.cell 0 (xv 1) 0,false) GU;have:=h0.1 (U 1).toNat (by omega);rw[h3]at this;cases this
theorem rN1:A0.ok Asb:=fun U _ _ _ _ _ _ _=>Az (g:=62) (ns:=[.lit 0]) (rs:=[0,1]) (ms:=[0]) (show QR 0 _ _ _ from fun j hj=>by omega)
theorem AjH{e:E}{c:Nat}(hc:c<24)(hi:RK c=true):∃k,(mcA GS e)[c]? =some (.sym k (.Bd 0 e c)):=by
 have hlen:GS.length=24:=by simp[GS]
 unfold mcA;rw[List.getElem?_map,List.getElem?_zipIdx];have:GS[c]? =some (GS.getD c .u):=by rw[Iw,List.getElem?_eq_getElem (by omega)];rfl
 rw[this];unfold RK at hi;split at hi
 ·rename_i k e2;rw[e2];exact⟨k,by simp⟩
 ·cases hi
theorem AaL{e:E}{l:List A}{s:Nat}{j c:Nat}(hj:e.den U=(j:Int)):Ao U j c ((l.zipIdx s).map fun (p:A×Nat)=>(e,p.2,p.1))=if s<=c then l[c-s]? else none:=by
 induction l generalizing s with
 |nil=>simp[Ao]
 |cons a l ih=>
  rw[List.zipIdx_cons,List.map_cons];unfold Ao
  by_cases h:s=c
  ·subst h;rw[if_pos ⟨hj,rfl⟩];simp
  ·rw[if_neg fun h2=>h h2.2,ih]
   by_cases h3:s+1<=c
   ·rw[if_pos h3,if_pos (by omega),show c-s=(c-(s+1))+1 by omega];rfl
   ·rw[if_neg h3,if_neg (by omega)]
theorem YQ{e:E}{l:List A}{s:Nat}{j c:Nat}(hj:e.den U ≠ (j:Int)):Ao U j c ((l.zipIdx s).map fun (p:A×Nat)=>(e,p.2,p.1))=none:=by
 induction l generalizing s with
 |nil=>rfl
 |cons a l ih=>
  rw[List.zipIdx_cons,List.map_cons];unfold Ao;rw[if_neg fun h2=>hj h2.1,ih]
theorem rN2:A0.ok Asc:=fun U h _ ha _ _ _ _=>Az (g:=62) (ns:=[Iv (xv 0)]) (rs:=[0,2]) (ms:=[0]) (show QR _ _ _ _ from by
 have h0:QR (U 0) (U.r 0) (U.r 1) (U.m 0):=Af (h.nth 0 rfl);have h1:0<=U 0:=H2 (h.nth 1 rfl);have h2:U 0<=65535:=Ig (h.nth 2 rfl);have h3:U 1=U 0:=Jj (h.nth 3 rfl);have ET:=(ha.mem ⟨1,((mcA GS (.cell 0 (xv 0) 0)).zipIdx.map fun (a,c)=>(xv 1,c,a)),2,[]⟩ GU).row;intro j hj c hc hi;rw[Dj (a:=xv 0) h1 h2]at hj;have hj:(j:Int)<U 0+1:=hj;have hr:U.r 2 j c=match Ao U j c ((mcA GS (.cell 0 (xv 0) 0)).zipIdx.map fun (p:A×Nat)=>(xv 1,p.2,p.1)) with |some a=>(a.val U).getD undef|none=>U.r 1 j c:=ET j c
 by_cases e:(j:Int)=U 0
 ·rw[AaL (e:=xv 1) (show U 1=(j:Int) by omega),if_pos (Nat.zero_le _),Nat.sub_zero]at hr;obtain⟨k,hk⟩:=AjH (e:=.cell 0 (xv 0) 0) hc hi;rw[hk]at hr;rw[show U.r 2 j c=Value.int k (Dm (U.m 0 (numOf (U.r 0 (U 0).toNat 0))) c) from hr];rw[<-e];rfl
 ·rw[YQ (e:=xv 1) (show U 1 ≠ (j:Int) by omega)]at hr;rw[show U.r 2 j c=U.r 1 j c from hr];exact h0 j (by omega) c hc hi)
theorem rN3:A0.ok Asd:=fun U h _ _ _ _ _ _=>Az (g:=63) (ns:=[xv 0]) (rs:=[0]) (ms:=[0]) (show L8 (U 0) (U.r 0) (U.m 0) from by
 have h0:QR (U 2) (U.r 1) (U.r 0) (U.m 0):=Af (h.nth 0 rfl);have h1:KeysOf (U 1) (U.r 1) (U.m 0):=Af (h.nth 1 rfl);have h2:QS (U.m 0):=Af (h.nth 2 rfl);have h3:U 0=U 2:=Jj (h.nth 3 rfl);have h4:U 1<=U 2:=H2 (h.nth 4 rfl);have h5:U 2<=U 1:=Ig (h.nth 5 rfl);have key:∀j:Nat,(j:Int)<U 0->numOf (U.r 0 j 0)=numOf (U.r 1 j 0):=by
  intro j hj;rw[h0 j (by omega) 0 (by decide) rfl];exact (h2 _ (h1.1 j (by omega))).1
 refine⟨fun j hj=>?_,fun i j hij hj=>?_,fun z hz=>?_⟩
 ·rw[key j hj];exact⟨h1.1 j (by omega),fun c hc hi=>h0 j (by omega) c hc hi⟩
 ·rw[key j hj,key i (by omega)];exact h1.2.1 i j hij (by omega)
 ·obtain⟨j,hj,e⟩:=h1.2.2 z hz;exact⟨j,by omega,by rw[key j (by omega)];exact e⟩)
theorem rM6:A0.ok ArZ:=fun U h _ _ _ _ _ _=>by
 have h0:QS (U.m 0):=Af (h.nth 0 rfl);have h1:(U.m 0 (U 0)).isSome=true:=Af (h.nth 1 rfl);exact FN (show 1<=Dm (U.m 0 (U 0)) 0 by rw[(h0 _ h1).1];exact (h0 _ h1).2.1)
theorem Aok:Al A0.ok rlN:=.cons rN0 (.cons rN1 (.cons rN2 (.cons rN3 (.cons rM6 .nil))))
theorem AeH{a f:Nat}(hf:f<64):((av a).map (E.den U)).getD f 0=U (a+f):=by
 unfold av;simp[Iw,List.getElem?_map,List.getElem?_range hf];rfl
theorem Abi:∀{l:List Int},(∀a∈l,0<=a/\a<=1024)->PR l<=1024*l.length:=by
 intro l
 induction l with
 |nil=>intro _;show (0:Int)<=_;simp
 |cons a l ih=>
  intro h;have h1:=(h a GU).2;have h2:=ih fun b hb=>h b (Gq _ hb)
  show a+PR l<=_;rw[List.length_cons];omega
theorem WR:∀{l:List Int} {f:Nat} {v:Int},f<l.length->PR (l.set f v)=PR l+v-l.getD f 0:=by
 intro l
 induction l with
 |nil=>intro f v h;cases h
 |cons a l ih=>
  intro f v h;cases f with
  |zero=>show v+PR l=a+PR l+v-a;omega
  |succ f=>
   show a+PR (l.set f v)=a+PR l+v-l.getD f 0;rw[ih (by simpa using h)];omega
theorem Ai6{l:List Int}{f:Nat}(h:∀a∈l,0<=a/\a<=1024)(hf:f<l.length)(h2:l.getD f 0<=1023):PR l<=1024*l.length-1:=by
 have h3:=WR (v:=1024) hf;have h4:=Abi (l:=l.set f 1024) fun a ha=>by
  rcases List.mem_or_eq_of_mem_set ha with h5|h5
  ·exact h a h5
  ·subst h5;omega
 rw[List.length_set]at h4;omega
theorem rB0:A0.ok {cf:=[AG 80 (xv 0::av 1)],Aw:=⟨.leq,xv 0,.lit 65536,true⟩}:=fun U h _ _ _ _ _ _=>Hg (show U 0<=65536 from by
 obtain⟨h1,h2,h3⟩:JJ (U 0) ((av 1).map (E.den U)):=Af (h.nth 0 rfl) (h1:=by simp[av]);have:=Abi h2;rw[h1]at this;omega)
theorem AbT{first id:Int}{ad:List Int}(h:LY first id ad)(h1:ad.length=64)(h2:∀a∈ad,0<=a/\a<=1024):PR ad<=65535:=by
 obtain⟨f,hf,e1,e2,e3,_⟩:=h;have:=Ai6 h2 (f:=f) (by omega) (by omega);rw[h1]at this;omega
theorem rB1:A0.ok {cf:=[AG 80 (xv 0::av 1),AG 81 (xv 70::xv 71::av 1),⟨.geq,xv 0,.lit 0,true⟩],Aw:=⟨.leq,Iv (xv 0),.lit 65536,true⟩}:=fun U h _ _ _ _ _ _=>Hg (by
 obtain⟨h1,h2,h3⟩:JJ (U 0) ((av 1).map (E.den U)):=Af (h.nth 0 rfl) (h1:=by simp[av]);have h4:LY (U 70) (U 71) ((av 1).map (E.den U)):=Af (h.nth 1 rfl) (h1:=by simp[av]);have h5:0<=U 0:=H2 (h.nth 2 rfl);have:=AbT h4 h1 h2;rw[Dj (a:=xv 0) h5 (show U 0<=65535 by omega)];show U 0+1<=65536;omega)
theorem rB2:A0.ok {cf:=[AG 80 (xv 0::av 1),⟨.leq,xv 70,xv 0,true⟩],Aw:=AG 80 (xv 70::av 1)}:=fun U h _ _ _ _ _ _=>Az (g:=80) (ns:=xv 70::av 1) (rs:=[]) (ms:=[]) (bs:=[]) (show JJ (U 70) ((av 1).map (E.den U)) from by
 obtain⟨h1,h2,h3⟩:JJ (U 0) ((av 1).map (E.den U)):=Af (h.nth 0 rfl) (h1:=by simp[av]);have h4:U 70<=U 0:=Ig (h.nth 1 rfl);exact⟨h1,h2,by omega⟩) (h1:=by simp[av])
theorem rB3:A0.ok {cf:=[AG 80 (xv 0::av 1),AG 81 (xv 70::xv 71::av 1),⟨.geq,xv 0,.lit 0,true⟩],Aw:=⟨.leq,xv 0,.lit 65535,true⟩}:=fun U h _ _ _ _ _ _=>Hg (show U 0<=65535 from by
 obtain⟨h1,h2,h3⟩:JJ (U 0) ((av 1).map (E.den U)):=Af (h.nth 0 rfl) (h1:=by simp[av]);have h4:LY (U 70) (U 71) ((av 1).map (E.den U)):=Af (h.nth 1 rfl) (h1:=by simp[av]);have:=AbT h4 h1 h2;omega)
theorem rB4:A0.ok {cf:=[AG 81 (xv 70::xv 71::av 1)],Aw:=⟨.geq,xv 71,.lit 1,true⟩}:=fun U h _ _ _ _ _ _=>FN (show 1<=U 71 from by
 obtain⟨f,_,_,_,_,h⟩:LY (U 70) (U 71) ((av 1).map (E.den U)):=Af (h.nth 0 rfl) (h1:=by simp[av]);exact h)
theorem Ajr{f:Nat}(hf:f<64)(h0:0<=U (f+1))(h1:U (f+1)<=1024):(idE f).den U=(f:Int)+1+64*U (f+1):=by
 show IntKind.i64.wrap (((f+1:Nat):Int)+IntKind.i64.wrap (64*U (f+1)))=_;rw[IntKind.wrap_i64,IntKind.wrap_i64];omega
theorem rB5{f:Nat}(hf:f<32):A0.ok (ArJ f):=fun U h _ _ _ _ _ _=>Az (g:=81) (ns:=xv 70::idE f::av 1) (rs:=[]) (ms:=[]) (bs:=[]) (show LY (U 70) ((idE f).den U) ((av 1).map (E.den U)) from by
 obtain⟨h1,h2,h3⟩:JJ (U 0) ((av 1).map (E.den U)):=Af (h.nth 0 rfl) (h1:=by simp[av]);have h4:(idE f).den U<=65535:=gtF (h.nth 1 rfl);have h5:U 70=(f:Int):=Jj (h.nth 2 rfl);have hg:((av 1).map (E.den U)).getD f 0=U (f+1):=(AeH (by omega)).trans (by rw[Nat.add_comm]);have hm:=h2 (((av 1).map (E.den U)).getD f 0) (by
  rw[Iw,List.getElem?_eq_getElem (by rw[h1];omega)];exact List.getElem_mem _)
 rw[hg]at hm;have hd:=Ajr (U:=U) (f:=f) (by omega) hm.1 hm.2;exact⟨f,by omega,h5,by rw[hd,hg];omega,h4,by omega⟩) (h1:=by simp[av])
theorem rB6{f:Nat}(hf:f<32):A0.ok (ArK f):=fun U h _ _ _ _ _ _=>Az (g:=80) (ns:=xv 72::(av 1).set f (Iv (xv (f+1)))) (rs:=[]) (ms:=[]) (bs:=[]) (show JJ (U 72) (((av 1).set f (Iv (xv (f+1)))).map (E.den U)) from by
 obtain⟨h1,h2,h3⟩:JJ (U 0) ((av 1).map (E.den U)):=Af (h.nth 0 rfl) (h1:=by simp[av]);obtain⟨g,N3,g1,g2,g3,_⟩:LY (U 70) (U 71) ((av 1).map (E.den U)):=Af (h.nth 1 rfl) (h1:=by simp[av]);have h5:U 70=(f:Int):=Jj (h.nth 2 rfl);have h6:0<=U 0:=H2 (h.nth 3 rfl);have h7:U 0<=65536:=Ig (h.nth 4 rfl);have h8:U 72=IntKind.i64.wrap (U 0+1):=Jj (h.nth 5 rfl);rw[IntKind.wrap_i64]at h8;have hgf:g=f:=by omega
 subst hgf;have hgt:((av 1).map (E.den U)).getD g 0=U (g+1):=(AeH N3).trans (by rw[Nat.add_comm]);have hm:=h2 (((av 1).map (E.den U)).getD g 0) (by
  rw[Iw,List.getElem?_eq_getElem (by rw[h1];omega)];exact List.getElem_mem _)
 rw[hgt]at g2 hm;have hd:(Iv (xv (g+1))).den U=U (g+1)+1:=Dj (a:=xv (g+1)) hm.1 (show U (g+1)<=65535 by omega);rw[List.map_set,hd];refine⟨by rw[List.length_set];exact h1,fun a ha=>?_,?_⟩
 ·rcases List.mem_or_eq_of_mem_set ha with h9|h9
  ·exact h2 a h9
  ·subst h9;omega
 ·rw[WR (by rw[h1];omega),hgt];omega) (h1:=by simp[av])
theorem Aoh:Al A0.ok rlB:=Al.append (.cons rB0 (.cons rB1 (.cons rB2 (.cons rB3 (.cons rB4 .nil))))) (Al.append (Al.Cx fun x hx=>by
 obtain⟨k,hk,e⟩:=List.mem_map.1 hx;rw[<-e];exact rB5 (List.mem_range.1 hk)) (Al.Cx fun x hx=>by
 obtain⟨k,hk,e⟩:=List.mem_map.1 hx;rw[<-e];exact rB6 (List.mem_range.1 hk)))
theorem rZ0:A0.ok {cf:=[],Aw:=AG 91 [.lit 0] [0]}:=fun U _ _ _ _ _ _ _=>Az (g:=91) (ns:=[.lit 0]) (rs:=[0]) (show ∀j c:Nat,(j:Int)<0->c<8->numOf (U.r 0 j c)=0 from fun j c hj=>by omega)
theorem rZ1:A0.ok Asf:=fun U h _ _ _ _ _ _=>Az (g:=91) (ns:=[Iv (xv 0)]) (rs:=[0]) (show ∀j c:Nat,(j:Int)<(Iv (xv 0)).den U->c<8->numOf (U.r 0 j c)=0 from fun j c hj hc=>by
 have h0:∀j c:Nat,(j:Int)<U 0->c<8->numOf (U.r 0 j c)=0:=Af (h.nth 0 rfl)
 have h1:0<=U 0:=H2 (h.nth 1 rfl);have h2:U 0<=65535:=Ig (h.nth 2 rfl);rw[Dj (a:=xv 0) h1 h2]at hj;have hj:(j:Int)<U 0+1:=hj
 by_cases e:(j:Int)<U 0
 ·exact h0 j c e hc
 ·have He:(U 0).toNat=j:=by omega
  have q:∀c',c'<8->numOf (U.r 0 (U 0).toNat c')=0:=fun c' hc'=>by
   have:=h.nth (3+c') (by show (_++(List.range 8).map _)[3+c']? =_;rw[List.getElem?_append_right (by simp)];simp[List.getElem?_map,List.getElem?_range hc'];rfl);exact Jj this
  rw[<-He];exact q c hc)
theorem rZ2:A0.ok {cf:=[AG 91 [xv 1] [0],⟨.leq,xv 0,xv 1,true⟩],Aw:=AG 91 [xv 0] [0]}:=fun U h _ _ _ _ _ _=>Az (g:=91) (ns:=[xv 0]) (rs:=[0]) (show ∀j c:Nat,(j:Int)<U 0->c<8->numOf (U.r 0 j c)=0 from fun j c hj hc=>by
 have h0:∀j c:Nat,(j:Int)<U 1->c<8->numOf (U.r 0 j c)=0:=Af (h.nth 0 rfl)
 have h1:U 0<=U 1:=Ig (h.nth 1 rfl);exact h0 j c (by omega) hc)
theorem rZ3(c:Nat)(hc:c<8):A0.ok (Asg c):=fun U h _ _ _ _ _ _=>Az (g:=92) (ns:=[xv 0]) (rs:=[0]) (show ∃j c:Nat,(j:Int)<U 0/\c<8/\numOf (U.r 0 j c) ≠ 0 from by
 have h0:numOf (U.r 0 (U 1).toNat c) ≠ 0:=eqF (h.nth 0 rfl);have h1:0<=U 1:=H2 (h.nth 1 rfl);have h2:U 1<U 0:=RY (h.nth 2 rfl);exact⟨(U 1).toNat,c,by omega,hc,h0⟩)
theorem Aoq:Al A0.ok rlZ:=Al.append (.cons rZ0 (.cons rZ1 (.cons rZ2 .nil))) (Al.Cx fun r hr=>by
 obtain⟨c,hc,e⟩:=List.mem_map.1 hr;rw[<-e];exact rZ3 c (List.mem_range.1 hc))
def PN.VM(s:PN):Bool:=s.Apu.isEmpty&&s.rd.all fun k=>WA k.2
theorem SI:∀s∈C5,¬s.kind=8:=by
 intro s hs;simp only[C5,BL,List.not_mem_nil,or_false]at hs;rcases hs with rfl|rfl|rfl|rfl|rfl|rfl<;>decide
theorem Xv:∀f∈Rt,¬ 8=f.kind:=by
 intro f hf;simp only[Rt,BL,List.not_mem_nil,or_false]at hf;rcases hf with rfl|rfl<;>decide
theorem Ym:∀f∈Rt,∀s∈C5,f.kind ≠ s.kind:=by
 intro f hf s hs;simp only[Rt,C5,BL,List.not_mem_nil,or_false]at hf hs;rcases hf with rfl|rfl<;>rcases hs with rfl|rfl|rfl|rfl|rfl|rfl<;>decide
theorem H6{s:PN}(hs:s∈C5)(hu:∀x∈C5,x.kind=s.kind->x=s)(hb:s.VM=true)(B:CH):AD.is s.kind B↔∃Y,B=s.D.Am V.WD Y/\Kn s.cf s.rd (fun _=>True) Y s.mp:=by
 unfold PN.VM at hb;rw[Ah]at hb;have hbg:=List.isEmpty_iff.1 hb.1;constructor
 ·rintro (⟨x,hx,hk,Y,e,i1,i2,i3,_⟩|⟨f,hf,hk,_⟩|⟨hk,_⟩)
  case inr.inl=>exact absurd hk (Ym f hf s hs)
  case inr.inr=>exact absurd hk (SI s hs)
  have:=hu x hx hk;subst this;exact⟨Y,e,Al.Cx i1,Al.Cx fun p hp=>⟨i2 p hp,Eo (Bf.1 hb.2 p hp)⟩,trivial,Al.Cx i3⟩
 ·rintro ⟨Y,e,i1,i2,_,i3⟩
  exact .inl ⟨s,hs,rfl,Y,e,fun f hf=>i1.mem f hf,fun p hp=>(i2.mem p hp).1,fun p hp=>i3.mem p hp,fun p hp=>by rw[hbg]at hp;cases hp⟩
theorem Abz{f:FMd}(hf:f∈Rt)(hu:∀x∈Rt,x.kind=f.kind->x=f)(hb:f.s.VM=true)(B:CH):AD.is f.kind B↔∃st,B=Be.Am V.WD ⟨f.s.D,f.V⟩ st/\∀z Y,st z=some Y->Kn f.s.cf f.s.rd (fun _=>True) Y f.s.mp:=by
 unfold PN.VM at hb;rw[Ah]at hb;have hbg:=List.isEmpty_iff.1 hb.1;constructor
 ·rintro (⟨x,hx,hk,_⟩|⟨g,hg,hk,st,e,h⟩|⟨hk,_⟩)
  case inr.inr=>exact absurd hk.symm (Xv f hf)
  ·exact absurd hk.symm (Ym f hf x hx)
  ·have:=hu g hg hk;subst this;refine⟨st,e,fun z Y hz=>?_⟩;obtain⟨i1,i2,i3,_⟩:=h z Y hz;exact⟨Al.Cx i1,Al.Cx fun p hp=>⟨i2 p hp,Eo (Bf.1 hb.2 p hp)⟩,trivial,Al.Cx i3⟩
 ·rintro ⟨st,e,h⟩
  refine .inr (.inl ⟨f,hf,rfl,st,e,fun z Y hz=>?_⟩);obtain⟨i1,i2,_,i3⟩:=h z Y hz;exact⟨fun f hf=>i1.mem f hf,fun p hp=>(i2.mem p hp).1,fun p hp=>i3.mem p hp,fun p hp=>by rw[hbg]at hp;cases hp⟩
theorem HM(B:CH):AD.is 8 B↔∃st,B=D0 st/\∀z,(st z).isSome=true->1<=z/\z<=65535:=by
 constructor
 ·rintro (⟨x,hx,hk,_⟩|⟨g,hg,hk,_⟩|⟨_,h⟩)
  ·exact absurd hk (SI x hx)
  ·exact absurd hk.symm (Xv g hg)
  ·exact h
 ·intro h;exact .inr (.inr ⟨rfl,h⟩)
theorem Aox{B:CH}(h:AD.is 1 B):QOK B.sv (fun i=>B.sr (8+i))/\∀q,q<8->0<=B.sv q:=by
 obtain⟨Y,rfl,i1,_⟩:=(H6 (s:=IU) (by simp[C5]) (fun x hx hk=>by
  simp only[C5,BL,List.not_mem_nil,or_false]at hx;rcases hx with rfl|rfl|rfl|rfl|rfl|rfl<;>first|rfl|cases hk) (by decide +kernel) B).1 h
 refine⟨?_,fun q hq=>?_⟩
 ·have h2:=i1.mem (AG 2 Fi Iz) (by simp[IU]);have h3:QOK (fun q=>(Fi.map (E.den Y)).getD q 0) fun q=>(Iz.map Y.r).getD q EB:=Af h2
  have e1:∀q,q<8->(Fi.map (E.den Y)).getD q 0=Y.v q:=fun q hq=>EA (U:=Y) hq
  have e2:∀q,q<8->(Iz.map Y.r).getD q EB=Y.r (8+q):=fun q hq=>by
   rcases lt8 hq with rfl|rfl|rfl|rfl|rfl|rfl|rfl|rfl<;>rfl
  refine⟨fun q hq j hj=>?_,fun q hq q' Fu j j' hj He e=>?_⟩
  ·have:=h3.1 q hq j (by show (j:Int)<(Fi.map (E.den Y)).getD q 0;rw[e1 q hq];exact hj);have this:1<=numOf ((Iz.map Y.r).getD q EB j 0)/\numOf ((Iz.map Y.r).getD q EB j 0)<=65535:=this;rw[e2 q hq]at this;exact this
  ·refine h3.2 q hq q' Fu j j' (by show (j:Int)<(Fi.map (E.den Y)).getD q 0;rw[e1 q hq];exact hj) (by show (j':Int)<(Fi.map (E.den Y)).getD q' 0;rw[e1 q' Fu];exact He) ?_;show numOf ((Iz.map Y.r).getD q EB j 0)=numOf ((Iz.map Y.r).getD q' EB j' 0);rw[e2 q hq,e2 q' Fu];exact e
 ·have:=i1.mem (⟨.geq,.var q,.lit 0,true⟩:CF) (by simp only[IU,List.mem_append,List.mem_map,List.mem_range];exact .inl ⟨q,hq,rfl⟩);exact H2 this
theorem Fz{a:E}(h0:0<=a.den U)(h1:a.den U<=4000000000):(Iv a).den U=a.den U+1:=by
 show IntKind.i64.wrap (a.den U+1)=_;rw[IntKind.wrap_i64];omega
def JY(m k i:Int):Prop:=0<=m/\m<=16000*k+i/\0<=k/\k<=65536/\0<=i/\i<=16000
theorem Nv{a b c:E}(h:A2 U (AG 120 [a,b,c])):JY (a.den U) (b.den U) (c.den U):=Af h
theorem Qy{a b c:E}(h:JY (a.den U) (b.den U) (c.den U)):A2 U (AG 120 [a,b,c]):=Az (g:=120) (ns:=[a,b,c]) (rs:=[]) (ms:=[]) (bs:=[]) h
theorem Aon:Al A0.ok rlU:=.cons (fun U _ _ _ _ _ _ _=>Qy (show JY 0 0 0 from by unfold JY;omega))
 (.cons (fun U h _ _ _ _ _ _=>Qy (by
  have h0:=Nv (h.nth 0 rfl);have h1:U 2<U 3:=RY (h.nth 1 rfl);have h2:U 3<=16000:=Ig (h.nth 2 rfl);have h0:JY (U 0) (U 1) (U 2):=h0;unfold JY at h0;rw[Fz (a:=xv 0) (show 0<=U 0 by omega) (show U 0<=_ by omega),Fz (a:=xv 2) (show 0<=U 2 by omega) (show U 2<=_ by omega)];show JY (U 0+1) (U 1) (U 2+1);unfold JY;omega))
 (.cons (fun U h _ _ _ _ _ _=>Qy (by
  have h0:=Nv (h.nth 0 rfl);have h1:U 2<U 3:=RY (h.nth 1 rfl);have h2:U 3<=16000:=Ig (h.nth 2 rfl);have h0:JY (U 0) (U 1) (U 2):=h0;unfold JY at h0;rw[Fz (a:=xv 2) (show 0<=U 2 by omega) (show U 2<=_ by omega)];show JY (U 0) (U 1) (U 2+1);unfold JY;omega))
 (.cons (fun U h _ _ _ _ _ _=>Qy (by
  have h0:=Nv (h.nth 0 rfl);have h1:U 1<U 3:=RY (h.nth 1 rfl);have h2:U 3<=65536:=Ig (h.nth 2 rfl);have h0:JY (U 0) (U 1) (U 2):=h0;unfold JY at h0;rw[Fz (a:=xv 1) (show 0<=U 1 by omega) (show U 1<=_ by omega)];show JY (U 0) (U 1+1) 0;unfold JY;omega))
 (.cons (fun U h _ _ _ _ _ _=>Hg (by
  have h0:JY (U 0) (U 1) (U 2):=Nv (h.nth 0 rfl);unfold JY at h0;show U 0<=1073741000;omega)) .nil))))
def F93(n x k:Int)(r:Rw):Prop:=0<=k/\k<n/\numOf (r k.toNat 0)=x/\∀j:Nat,(j:Int)<n->numOf (r j 0)=x->(j:Int)=k
def F95(n:Int)(r:Rw):Prop:=∀j:Nat,(j:Int)<n->numOf (r j 0)=0
theorem rS0:A0.ok (rlS.getD 0 DZ):=fun U h _ _ _ _ _ _=>Az (g:=1) (ns:=[Iv (xv 0),xv 1]) (rs:=[0]) (show EX _ _ _ from fun j hj=>by
 have h0:EX (U 0) (U.r 0) (U 1):=Af (h.nth 0 rfl);have h1:numOf (U.r 0 (U 0).toNat 0) ≠ U 1:=eqF (h.nth 1 rfl);have h2:0<=U 0:=H2 (h.nth 2 rfl);have h3:U 0<=65535:=Ig (h.nth 3 rfl);rw[Dj (a:=xv 0) h2 h3]at hj;have hj:(j:Int)<U 0+1:=hj
 by_cases e:(j:Int)=U 0
 ·rw[<-e]at h1;exact h1
 ·exact h0 j (by omega))
theorem rS1:A0.ok (rlS.getD 1 DZ):=fun U h _ _ _ _ _ _=>AnH (by
 have h0:F93 (U 0) (U 1) (U 2) (U.r 0):=Af (h.nth 0 rfl);have h1:numOf (U.r 0 (U 3).toNat 0)=U 1:=Jj (h.nth 1 rfl);have h2:0<=U 3:=H2 (h.nth 2 rfl);have h3:U 3<U 0:=RY (h.nth 3 rfl);have:=h0.2.2.2 (U 3).toNat (by omega) h1;show U 2=U 3;omega)
theorem rS2:A0.ok (rlS.getD 2 DZ):=fun U h _ _ _ _ _ _=>by
 have h0:EX (U 0) (U.r 0) (U 1):=Af (h.nth 0 rfl);have h1:numOf (U.r 0 (U 3).toNat 0)=U 1:=Jj (h.nth 1 rfl);have h2:0<=U 3:=H2 (h.nth 2 rfl);have h3:U 3<U 0:=RY (h.nth 3 rfl);exact absurd h1 (h0 (U 3).toNat (by omega))
theorem rS3:A0.ok (rlS.getD 3 DZ):=fun U h _ _ _ _ _ _=>by
 have h0:F93 (U 0) (U 1) (U 2) (U.r 0):=Af (h.nth 0 rfl);have h1:EX (U 0) (U.r 0) (U 1):=Af (h.nth 1 rfl);obtain⟨a,b,c,_⟩:=h0;exact absurd c (h1 (U 2).toNat (by omega))
theorem rS4:A0.ok (rlS.getD 4 DZ):=fun U _ _ _ _ _ _ _=>Az (g:=95) (ns:=[.lit 0]) (rs:=[0]) (show F95 0 _ from fun j hj=>by omega)
theorem rS5:A0.ok (rlS.getD 5 DZ):=fun U h _ _ _ _ _ _=>Az (g:=95) (ns:=[Iv (xv 0)]) (rs:=[0]) (show F95 _ _ from fun j hj=>by
 have h0:F95 (U 0) (U.r 0):=Af (h.nth 0 rfl);have h1:numOf (U.r 0 (U 0).toNat 0)=0:=Jj (h.nth 1 rfl);have h2:0<=U 0:=H2 (h.nth 2 rfl);have h3:U 0<=65535:=Ig (h.nth 3 rfl);rw[Dj (a:=xv 0) h2 h3]at hj;have hj:(j:Int)<U 0+1:=hj
 by_cases e:(j:Int)=U 0
 ·rw[<-e]at h1;exact h1
 ·exact h0 j (by omega))
theorem rS6:A0.ok (rlS.getD 6 DZ):=fun U h _ _ _ _ _ _=>by
 have h0:F95 (U 0) (U.r 0):=Af (h.nth 0 rfl);have h1:numOf (U.r 0 (U 1).toNat 0) ≠ 0:=eqF (h.nth 1 rfl);have h2:0<=U 1:=H2 (h.nth 2 rfl);have h3:U 1<U 0:=RY (h.nth 3 rfl);exact absurd (h0 (U 1).toNat (by omega)) h1
theorem rS7:A0.ok (rlS.getD 7 DZ):=fun U h _ _ _ _ _ _=>by
 have h0:F95 (U 0) (U.r 0):=Af (h.nth 0 rfl);have h1:numOf (U.r 0 (U 1).toNat 0) ≠ 0:=neT (h.nth 1 rfl);have h2:0<=U 1:=H2 (h.nth 2 rfl);have h3:U 1<U 0:=RY (h.nth 3 rfl);exact absurd (h0 (U 1).toNat (by omega)) h1
theorem rS8:A0.ok (rlS.getD 8 DZ):=fun U h _ _ hc _ _ _=>Az (g:=7) (ns:=[xv 0,xv 3]) (rs:=[0,7]) (show ∀(j c:Nat),U.r 7 j c=if (j:Int)<U 3 then U.r 0 j c else U.r 0 (j+1) c from fun j c=>by
 have h2:0<=U 1:=H2 (h.nth 0 rfl);have h3:U 1<=65535:=Ig (h.nth 1 rfl);have h4:U 3=U 1:=Jj (h.nth 2 rfl);have c1:U.r 6 j c=if (j:Int)<0 then U.r 5 j c else U.r 0 ((0:Int).toNat+(j-(0:Int).toNat)) c:=hc.nth 0 rfl j c
 have c2:U.r 7 j c=if (j:Int)<U 1 then U.r 6 j c else U.r 0 (((Iv (xv 1)).den U).toNat+(j-(U 1).toNat)) c:=hc.nth 1 rfl j c
 rw[Dj (a:=xv 1) h2 h3]at c2;have c2:U.r 7 j c=if (j:Int)<U 1 then U.r 6 j c else U.r 0 ((U 1+1).toNat+(j-(U 1).toNat)) c:=c2
 rw[c2,h4]
 by_cases e:(j:Int)<U 1
 ·rw[if_pos e,if_pos e,c1,if_neg (by omega)]
  congr 1
  simp
 ·rw[if_neg e,if_neg e]
  congr 1
  omega)
theorem rS9:A0.ok (rlS.getD 9 DZ):=fun U h _ _ _ _ _ _=>by
 have h0:∃j:Nat,(j:Int)<U 0/\numOf (U.r 0 j 0) ≠ 0:=Af (h.nth 0 rfl)
 have h1:F95 (U 1) (U.r 0):=Af (h.nth 1 rfl);have h2:U 0<=U 1:=Ig (h.nth 2 rfl);obtain⟨j,hj,hn⟩:=h0;exact absurd (h1 j (by omega)) hn
theorem AuY:A0.ok (rlS.getD 10 DZ):=fun U _ _ _ _ _ _ _=>Az (g:=96) (ns:=[.lit 0]) (rs:=[0,1]) (show F96 0 _ _ from fun j hj=>by omega)
theorem YE{U:An}{a b:Nat}{e i:E}(h:Kp U ⟨a,[(e,0,.sym .i64 (.cell 0 i 0)),(e,1,.rc 0 i 1)],b,[]⟩)(j:Nat):
 ((j:Int)=e.den U->L9 (U.r 0) (U.r b) j (i.den U).toNat)/\((j:Int) ≠ e.den U->U.r b j 0=U.r a j 0/\U.r b j 1=U.r a j 1):=by
 have h0:=h.row j 0;have h1:=h.row j 1;unfold Ao Ao Ao at h0 h1;constructor
 ·intro he;simp only[he,and_self,if_true,Nat.reduceEqDiff,and_false,if_false]at h0 h1;unfold L9;rw[h0,h1];exact⟨rfl,rfl⟩
 ·intro he;have:¬e.den U=(j:Int):=fun e2=>he e2.symm
  simp only[this,false_and,if_false]at h0 h1;exact⟨h0,h1⟩
theorem AuZ:A0.ok (rlS.getD 11 DZ):=fun U h _ ha _ _ _ _=>Az (g:=96) (ns:=[Iv (xv 0)]) (rs:=[0,2]) (show F96 _ _ _ from fun j hj=>by
 have h0:F96 (U 0) (U.r 0) (U.r 1):=Af (h.nth 0 rfl);have h2:0<=U 0:=H2 (h.nth 1 rfl);have h3:U 0<=65535:=Ig (h.nth 2 rfl);have h4:U 1=U 0:=Jj (h.nth 3 rfl);have h5:U 2=U 0:=Jj (h.nth 4 rfl);rw[Dj (a:=xv 0) h2 h3]at hj;have hj:(j:Int)<U 0+1:=hj;obtain⟨p1,p2⟩:=YE (ha.nth 0 rfl) j;have p1:(j:Int)=U 1->L9 (U.r 0) (U.r 2) j (U 2).toNat:=p1;have p2:(j:Int) ≠ U 1->U.r 2 j 0=U.r 1 j 0/\U.r 2 j 1=U.r 1 j 1:=p2
 by_cases e:(j:Int)=U 1
 ·have:=p1 e;rw[show (U 2).toNat=j by omega]at this;exact this
 ·obtain⟨q1,q2⟩:=p2 e;obtain⟨g1,g2⟩:=h0 j (by omega);show numOf (U.r 2 j 0)=_/\U.r 2 j 1=_;rw[q1,q2];exact⟨g1,g2⟩)
theorem Ava:A0.ok (rlS.getD 12 DZ):=fun U h _ _ _ _ _ _=>Az (g:=98) (ns:=[xv 0,xv 1]) (rs:=[0,1]) (show F98 _ _ _ _ from fun j=>by
 have h0:F96 (U 1) (U.r 0) (U.r 1):=Af (h.nth 0 rfl);have h1:U 0<=U 1:=Ig (h.nth 1 rfl);refine⟨fun hj=>h0 j hj,fun hj hn=>?_⟩;have hj:U 1<(j:Int):=hj;have hn:(j:Int)<=U 0:=hn;omega)
theorem Aom:Al A0.ok rlS:=.cons rS0 (.cons rS1 (.cons rS2 (.cons rS3 (.cons rS4 (.cons rS5 (.cons rS6 (.cons rS7 (.cons rS8 (.cons rS9 (.cons AuY (.cons AuZ (.cons Ava .nil))))))))))))
theorem Akf:DZ.ok:=fun U h _ ha _ _ _ _=>Az (g:=98) (ns:=[Iv (xv 0),xv 3]) (rs:=[0,2]) (show F98 _ _ _ _ from fun j=>by
 have h0:F98 (U 0) (U 3) (U.r 0) (U.r 1):=Af (h.nth 0 rfl);have h2:0<=U 0:=H2 (h.nth 1 rfl);have h3:U 0<=65535:=Ig (h.nth 2 rfl);have h4:U 1=(Iv (xv 0)).den U:=Jj (h.nth 3 rfl);have h5:U 2=U 0:=Jj (h.nth 4 rfl);rw[Dj (a:=xv 0) h2 h3]at h4 ⊢;have h4:U 1=U 0+1:=h4;obtain⟨p1,p2⟩:=YE (ha.nth 0 rfl) j;have p1:(j:Int)=U 1->L9 (U.r 0) (U.r 2) j (U 2).toNat:=p1;have p2:(j:Int) ≠ U 1->U.r 2 j 0=U.r 1 j 0/\U.r 2 j 1=U.r 1 j 1:=p2;show ((j:Int)<U 3->L9 (U.r 0) (U.r 2) j j)/\(U 3<(j:Int)->(j:Int)<=U 0+1->L9 (U.r 0) (U.r 2) j (j-1))
 by_cases e:(j:Int)=U 1
 ·have:=p1 e;rw[show (U 2).toNat=j-1 by omega]at this;refine⟨fun hj=>?_,fun _ _=>this⟩;have h6:U 3<=U 0:=Ig (h.nth 5 rfl);omega
 ·obtain⟨q1,q2⟩:=p2 e;obtain⟨g1,g2⟩:=h0 j;constructor
  ·intro hj;show numOf (U.r 2 j 0)=_/\U.r 2 j 1=_;rw[q1,q2];exact g1 hj
  ·intro hj hn;show numOf (U.r 2 j 0)=_/\U.r 2 j 1=_;rw[q1,q2];exact g2 hj (by omega))
theorem Akg:Ase.ok:=fun U h _ _ _ _ _ _=>Az (g:=98) (ns:=[xv 0,xv 2]) (rs:=[0,1]) (show F98 _ _ _ _ from fun j=>by
 have h0:F98 (U 1) (U 2) (U.r 0) (U.r 1):=Af (h.nth 0 rfl);have h1:U 0<=U 1:=Ig (h.nth 1 rfl);obtain⟨g1,g2⟩:=h0 j;refine⟨g1,fun hj hn=>g2 hj ?_⟩;have hn:(j:Int)<=U 0:=hn;omega)
def QM(Q:CH)(x:Int):Prop:=CN Q.sv (fun i=>Q.sr (8+i)) x
def TR(T:CH)(x:Int):Prop:=∃u,T.sm 0 x=some u/\Dm (some u) 1=1
theorem GQ{t q:Nat}(h:A2 U (ri t q)):∀x,QM (U.b q) x↔TR (U.b t) x:=Af (g:=100) (ns:=[]) (rs:=[]) (ms:=[]) (bs:=[t,q]) h
theorem LN{t q:Nat}(h:∀x,QM (U.b q) x↔TR (U.b t) x):A2 U (ri t q):=Az (g:=100) (ns:=[]) (rs:=[]) (ms:=[]) (bs:=[t,q]) h
theorem AfS:RK 1=true:=by decide
theorem OX{T T':CH}{z:Int}{e:Nat->Int}(h:Put (T.sm 0) (T'.sm 0) z e)(x:Int):TR T' x↔(x=z/\e 1=1)\/(x ≠ z/\TR T x):=by
 obtain⟨u,h1,h2⟩:=h;have h1:=h1 1 (by omega) AfS;unfold TR;rw[h2 x]
 by_cases e1:x=z
 ·rw[if_pos e1];constructor
  ·rintro ⟨u',h3,h4⟩
   cases h3;exact .inl ⟨e1,by rw[<-h1];exact h4⟩
  ·rintro (⟨_,h3⟩|⟨h3,_⟩)
   ·exact⟨u,rfl,by rw[h1];exact h3⟩
   ·exact absurd e1 h3
 ·rw[if_neg e1];constructor
  ·intro h3;exact .inr ⟨e1,h3⟩
  ·rintro (⟨h3,_⟩|⟨_,h3⟩)
   ·exact absurd h3 e1
   ·exact h3
theorem AgZ{T T':CH}{z:Int}(h:UT (T.sm 0) (T'.sm 0) z)(x:Int):TR T' x↔x ≠ z/\TR T x:=by
 unfold TR;rw[h x]
 by_cases e1:x=z
 ·rw[if_pos e1];constructor
  ·rintro ⟨_,h3,_⟩;cases h3
  ·rintro ⟨h3,_⟩;exact absurd e1 h3
 ·rw[if_neg e1];exact⟨fun h3=>⟨e1,h3⟩,fun h3=>h3.2⟩
theorem Aln{T:CH}{z:Int}(h:T.sm 0 z=none):¬TR T z:=by
 rintro ⟨u,h1,_⟩
 rw[h]at h1;cases h1
theorem rR0:A0.ok (rlR.getD 0 DZ):=fun U h _ _ _ _ _ _=>LN fun x=>by
 have h0:=GQ (h.nth 1 rfl) x;have h1:(U.b 0).sm 0 (U 0)=none/\Put ((U.b 0).sm 0) ((U.b 2).sm 0) (U 0) fun c=>((nw (xv 0)).map (E.den U)).getD c 0:=Af (g:=74) (ns:=xv 0::nw (xv 0)) (rs:=[]) (ms:=[]) (bs:=[0,2]) (h.nth 0 rfl)
 rw[h0,OX h1.2 x];have e1:((nw (xv 0)).map (E.den U)).getD 1 0=0:=rfl;constructor
 ·intro h2;exact .inr ⟨fun e=>Aln h1.1 (e▸h2),h2⟩
 ·rintro (⟨_,h2⟩|⟨_,h2⟩)
  ·rw[e1]at h2;omega
  ·exact h2
theorem rR1:A0.ok (rlR.getD 1 DZ):=fun U h _ _ _ _ _ _=>LN fun x=>by
 have h0:=GQ (h.nth 2 rfl);have h1:(U.b 0).sm 0 (U 0)=none:=Af (g:=70) (ns:=[xv 0]) (rs:=[]) (ms:=[]) (bs:=[0]) (h.nth 0 rfl);have h2:(∀y,QM (U.b 3) y↔QM (U.b 1) y/\y ≠ U 0)/\_:=Af (g:=33) (ns:=[xv 0]) (rs:=[]) (ms:=[]) (bs:=[1,3]) (h.nth 1 rfl);rw[h2.1 x,h0 x];exact⟨fun h3=>h3.1,fun h3=>⟨h3,fun e=>Aln h1 (e▸h3)⟩⟩
theorem rR2:A0.ok (rlR.getD 2 DZ):=fun U h _ _ _ _ _ _=>LN fun x=>by
 have h0:=GQ (h.nth 2 rfl);have h1:((U.b 0).sm 0 (U 0)).isSome=true/\UT ((U.b 0).sm 0) ((U.b 2).sm 0) (U 0):=Af (g:=73) (ns:=[xv 0]) (rs:=[]) (ms:=[]) (bs:=[0,2]) (h.nth 0 rfl);have h2:¬QM (U.b 1) (U 0):=Af (g:=30) (ns:=[xv 0]) (rs:=[]) (ms:=[]) (bs:=[1]) (h.nth 1 rfl);rw[AgZ h1.2 x,<-h0 x];exact⟨fun h3=>⟨fun e=>h2 (e▸h3),h3⟩,fun h3=>h3.2⟩
theorem rR3:A0.ok (rlR.getD 3 DZ):=fun U h _ _ _ _ _ _=>LN fun x=>by
 have h0:=GQ (h.nth 2 rfl);have h1:((U.b 0).sm 0 (U 0)).isSome=true/\UT ((U.b 0).sm 0) ((U.b 2).sm 0) (U 0):=Af (g:=73) (ns:=[xv 0]) (rs:=[]) (ms:=[]) (bs:=[0,2]) (h.nth 0 rfl);have h2:(∀y,QM (U.b 3) y↔QM (U.b 1) y/\y ≠ U 0)/\_:=Af (g:=33) (ns:=[xv 0]) (rs:=[]) (ms:=[]) (bs:=[1,3]) (h.nth 1 rfl);rw[AgZ h1.2 x,<-h0 x,h2.1 x];exact And.comm
theorem Lp(a:Nat):((Tj a).map (E.den U)).getD 1 0=U (a+1):=Wv (by omega)
theorem NZ{z:E}{a t t':Nat}(h:A2 U (b1 72 (z::Tj a) [t,t'])):((U.b t).sm 0 (z.den U)).isSome=true/\Put ((U.b t).sm 0) ((U.b t').sm 0) (z.den U) fun c=>((Tj a).map (E.den U)).getD c 0:=Af (g:=72) (ns:=z::Tj a) (rs:=[]) (ms:=[]) (bs:=[t,t']) h (h1:=by simp[Tj])
theorem rR4:A0.ok (rlR.getD 4 DZ):=fun U h _ _ _ _ _ _=>LN fun x=>by
 have h0:=GQ (h.nth 4 rfl);have h1:=NZ (h.nth 0 rfl);have h2:QM (U.b 1) (U 30):=Af (g:=31) (ns:=[xv 30]) (rs:=[]) (ms:=[]) (bs:=[1]) (h.nth 1 rfl);have h3:U 30=U 0:=Jj (h.nth 2 rfl);have h4:U 2=1:=Jj (h.nth 3 rfl);rw[OX h1.2 x,Lp,<-h0 x];have h1z:(xv 0).den U=U 0:=rfl;rw[h1z];constructor
 ·intro h5
  by_cases e:x=U 0
  ·exact .inl ⟨e,h4⟩
  ·exact .inr ⟨e,h5⟩
 ·rintro (⟨e,_⟩|⟨_,h5⟩)
  ·rw[e,<-h3];exact h2
  ·exact h5
theorem rR5:A0.ok (rlR.getD 5 DZ):=fun U h _ _ _ _ _ _=>LN fun x=>by
 have h0:=GQ (h.nth 4 rfl);have h1:=NZ (h.nth 0 rfl);have h2:(∀y,QM (U.b 3) y↔QM (U.b 1) y\/y=U 30)/\_:=Af (g:=32) (ns:=[xv 30]) (rs:=[]) (ms:=[]) (bs:=[1,3]) (h.nth 1 rfl);have h3:U 30=U 0:=Jj (h.nth 2 rfl);have h4:U 2=1:=Jj (h.nth 3 rfl);rw[OX h1.2 x,Lp,<-h0 x,h2.1 x,h3];have h1z:(xv 0).den U=U 0:=rfl;rw[h1z];constructor
 ·rintro (h5|e)
  ·by_cases e:x=U 0
   ·exact .inl ⟨e,h4⟩
   ·exact .inr ⟨e,h5⟩
  ·exact .inl ⟨e,h4⟩
 ·rintro (⟨e,_⟩|⟨_,h5⟩)
  ·exact .inr e
  ·exact .inl h5
theorem rR6:A0.ok (rlR.getD 6 DZ):=fun U h _ _ _ _ _ _=>LN fun x=>by
 have h0:=GQ (h.nth 4 rfl);have h1:=NZ (h.nth 0 rfl);have h2:¬QM (U.b 1) (U 30):=Af (g:=30) (ns:=[xv 30]) (rs:=[]) (ms:=[]) (bs:=[1]) (h.nth 1 rfl);have h3:U 30=U 0:=Jj (h.nth 2 rfl);have h4:U 2 ≠ 1:=eqF (h.nth 3 rfl);rw[OX h1.2 x,Lp,<-h0 x];have h1z:(xv 0).den U=U 0:=rfl;rw[h1z];constructor
 ·intro h5;exact .inr ⟨fun e=>h2 (by rw[h3,<-e];exact h5),h5⟩
 ·rintro (⟨_,h5⟩|⟨_,h5⟩)
  ·exact absurd h5 h4
  ·exact h5
theorem rR7:A0.ok (rlR.getD 7 DZ):=fun U h _ _ _ _ _ _=>LN fun x=>by
 have h0:=GQ (h.nth 4 rfl);have h1:=NZ (h.nth 0 rfl);have h2:(∀y,QM (U.b 3) y↔QM (U.b 1) y/\y ≠ U 30)/\_:=Af (g:=33) (ns:=[xv 30]) (rs:=[]) (ms:=[]) (bs:=[1,3]) (h.nth 1 rfl);have h3:U 30=U 0:=Jj (h.nth 2 rfl);have h4:U 2 ≠ 1:=eqF (h.nth 3 rfl);rw[OX h1.2 x,Lp,<-h0 x,h2.1 x,h3];have h1z:(xv 0).den U=U 0:=rfl;rw[h1z];constructor
 ·rintro ⟨h5,h6⟩
  exact .inr ⟨h6,h5⟩
 ·rintro (⟨_,h5⟩|⟨h6,h5⟩)
  ·exact absurd h5 h4
  ·exact⟨h5,h6⟩
theorem Agb{z:E}{a t:Nat}(h:A2 U (b1 71 (z::Tj a) [t])):((U.b t).sm 0 (z.den U)).isSome=true/\Dm ((U.b t).sm 0 (z.den U)) 1=U (a+1):=by
 have h1:((U.b t).sm 0 (z.den U)).isSome=true/\∀c,c<24->RK c=true->Dm ((U.b t).sm 0 (z.den U)) c=((Tj a).map (E.den U)).getD c 0:=Af (g:=71) (ns:=z::Tj a) (rs:=[]) (ms:=[]) (bs:=[t]) h (h1:=by simp[Tj])
 refine⟨h1.1,?_⟩;rw[h1.2 1 (by omega) AfS,Lp]
theorem rR8:A0.ok (rlR.getD 8 DZ):=fun U h _ _ _ _ _ _=>LN fun x=>by
 have h0:=GQ (h.nth 4 rfl);have h1:=Agb (h.nth 1 rfl);have h2:=NZ (h.nth 0 rfl);have h3:U 60=U 0:=Jj (h.nth 2 rfl);have h4:U 62=U 31:=Jj (h.nth 3 rfl);rw[OX h2.2 x,Lp,h0 x];have e1:(xv 60).den U=U 0:=h3;have e2:(xv 0).den U=U 0:=rfl;rw[e1];rw[e2]at h1;have e3:U (61+1)=U 31:=h4;rw[e3];obtain⟨h1a,h1b⟩:=h1;have h1b:Dm ((U.b 0).sm 0 (U 0)) 1=U 31:=h1b;constructor
 ·intro h5
  by_cases e:x=U 0
  ·refine .inl ⟨e,?_⟩;obtain⟨u,h6,h7⟩:=h5;rw[<-h1b,<-e,h6];exact h7
  ·exact .inr ⟨e,h5⟩
 ·rintro (⟨e,h5⟩|⟨_,h5⟩)
  ·cases hs:(U.b 0).sm 0 (U 0) with
   |none=>rw[hs]at h1a;cases h1a
   |some u=>
    refine⟨u,by rw[e];exact hs,?_⟩;rw[hs]at h1b;rw[h1b];exact h5
  ·exact h5
theorem rR9:A0.ok (rlR.getD 9 DZ):=fun U h _ _ _ _ _ _=>by
 have h1:(U.b 0).sm 0 (U 0)=none:=Af (g:=70) (ns:=[xv 0]) (rs:=[]) (ms:=[]) (bs:=[0]) (h.nth 0 rfl);have h2:=(Agb (h.nth 1 rfl)).1;have h3:(xv 1).den U=U 0:=Jj (h.nth 2 rfl);rw[h3,h1]at h2;cases h2
theorem AuX:A0.ok (rlR.getD 10 DZ):=fun U h _ _ _ _ _ _=>by
 have h1:(U.b 0).sm 0 (U 0)=none:=Af (g:=70) (ns:=[xv 0]) (rs:=[]) (ms:=[]) (bs:=[0]) (h.nth 0 rfl);have h2:((U.b 0).sm 0 (U 1)).isSome=true/\_:=Af (g:=73) (ns:=[xv 1]) (rs:=[]) (ms:=[]) (bs:=[0,1]) (h.nth 1 rfl);have h3:U 1=U 0:=Jj (h.nth 2 rfl);rw[h3,h1]at h2;cases h2.1
theorem Aol:Al A0.ok rlR:=.cons rR0 (.cons rR1 (.cons rR2 (.cons rR3 (.cons rR4 (.cons rR5 (.cons rR6 (.cons rR7 (.cons rR8 (.cons rR9 (.cons AuX .nil))))))))))
theorem Qu{r:Rw}:∀k,0<=Ka r k/\Ka r k<=k
 | 0=>⟨Int.le_refl _,Int.le_refl _⟩
 |k+1=>by
  obtain⟨h1,h2⟩:=Qu (r:=r) k;unfold Ka;split<;>omega
theorem K1{a b:E}{r:Nat}(h:A2 U (AG 101 [a,b] [r])):a.den U=Ka (U.r r) (b.den U).toNat/\0<=b.den U:=Af h
theorem Vz{a b:E}{r:Nat}(h:a.den U=Ka (U.r r) (b.den U).toNat/\0<=b.den U):A2 U (AG 101 [a,b] [r]):=Az (g:=101) (ns:=[a,b]) (rs:=[r]) (ms:=[]) (bs:=[]) h
theorem SY{z:Int}(h:0<=z):(z+1).toNat=z.toNat+1:=by omega
theorem rL0:A0.ok (rlL.getD 0 DZ):=fun U _ _ _ _ _ _ _=>Vz ⟨rfl,Int.le_refl _⟩
theorem rL1:A0.ok (rlL.getD 1 DZ):=fun U h _ _ _ _ _ _=>Vz (by
 obtain⟨h0,h0'⟩:=K1 (h.nth 0 rfl);have h0:U 0=Ka (U.r 0) (U 1).toNat:=h0;have h1:numOf (U.r 0 (U 1).toNat 1)=1:=Jj (h.nth 1 rfl);have h2:0<=U 1:=H2 (h.nth 2 rfl);have h3:U 1<=65536:=Ig (h.nth 3 rfl);have h4:=Qu (r:=U.r 0) (U 1).toNat;rw[Fz (a:=xv 0) (show 0<=U 0 by omega) (show U 0<=_ by omega),Fz (a:=xv 1) h2 (show U 1<=_ by omega)];show U 0+1=Ka (U.r 0) (U 1+1).toNat/\0<=U 1+1;rw[SY h2];unfold Ka;rw[if_pos h1];omega)
theorem rL2:A0.ok (rlL.getD 2 DZ):=fun U h _ _ _ _ _ _=>Vz (by
 obtain⟨h0,h0'⟩:=K1 (h.nth 0 rfl);have h0:U 0=Ka (U.r 0) (U 1).toNat:=h0;have h1:¬numOf (U.r 0 (U 1).toNat 1)=1:=eqF (h.nth 1 rfl);have h2:0<=U 1:=H2 (h.nth 2 rfl);have h3:U 1<=65536:=Ig (h.nth 3 rfl);rw[Fz (a:=xv 1) h2 (show U 1<=_ by omega)];show U 0=Ka (U.r 0) (U 1+1).toNat/\0<=U 1+1;rw[SY h2];unfold Ka;rw[if_neg h1];omega)
theorem Gb{n:E}{r t:Nat}(h:A2 U (AG 75 [n] [r] [] [t])):L8 (n.den U) (U.r r) ((U.b t).sm 0):=Af (g:=75) (ns:=[n]) (rs:=[r]) (ms:=[]) (bs:=[t]) h
theorem Va{n:Int}{r:Rw}{T:CH}(h:L8 n r (T.sm 0)){j:Nat}(hj:(j:Int)<n):TR T (numOf (r j 0))↔numOf (r j 1)=1:=by
 obtain⟨h1,h2⟩:=h.1 j hj;have h3:=h2 1 (by omega) AfS;rw[h3];unfold TR;cases hs:T.sm 0 (numOf (r j 0)) with
 |none=>rw[hs]at h1;cases h1
 |some u=>exact⟨fun⟨u',e,h4⟩=>by cases e;exact h4,fun h4=>⟨u,rfl,h4⟩⟩
theorem rL3:A0.ok (rlL.getD 3 DZ):=fun U h _ _ _ _ _ _=>by
 have h0:=GQ (h.nth 0 rfl);have h1:L8 (U 0) (U.r 2) ((U.b 0).sm 0):=Gb (h.nth 1 rfl);have h2:QM (U.b 1) (numOf (U.r 2 (U 1).toNat 0)):=Af (g:=31) (ns:=[.cell 2 (xv 1) 0]) (rs:=[]) (ms:=[]) (bs:=[1]) (h.nth 2 rfl);have h3:¬numOf (U.r 2 (U 1).toNat 1)=1:=eqF (h.nth 3 rfl);have h4:0<=U 1:=H2 (h.nth 4 rfl);have h5:U 1<U 0:=RY (h.nth 5 rfl);exact absurd ((Va h1 (j:=(U 1).toNat) (by omega)).1 ((h0 _).1 h2)) h3
theorem rL4:A0.ok (rlL.getD 4 DZ):=fun U h _ _ _ _ _ _=>by
 have h0:=GQ (h.nth 0 rfl);have h1:L8 (U 0) (U.r 2) ((U.b 0).sm 0):=Gb (h.nth 1 rfl);have h2:¬QM (U.b 1) (numOf (U.r 2 (U 1).toNat 0)):=Af (g:=30) (ns:=[.cell 2 (xv 1) 0]) (rs:=[]) (ms:=[]) (bs:=[1]) (h.nth 2 rfl);have h3:numOf (U.r 2 (U 1).toNat 1)=1:=Jj (h.nth 3 rfl);have h4:0<=U 1:=H2 (h.nth 4 rfl);have h5:U 1<U 0:=RY (h.nth 5 rfl);exact absurd ((h0 _).2 ((Va h1 (j:=(U 1).toNat) (by omega)).2 h3)) h2
def YI(r:Rw):Nat->List Int
 | 0=>[]
 |k+1=>YI r k++if numOf (r k 1)=1 then [numOf (r k 0)] else []
theorem YJ{r:Rw}:∀k,((YI r k).length:Int)=Ka r k
 | 0=>rfl
 |k+1=>by
  unfold YI Ka;rw[List.length_append];have:=YJ (r:=r) k;split<;>simp<;>omega
theorem Sw{r:Rw}{x:Int}:∀{k:Nat},x∈YI r k↔∃j,j<k/\numOf (r j 1)=1/\numOf (r j 0)=x
 | 0=>by simp[YI]
 |k+1=>by
  unfold YI;rw[List.mem_append,Sw (k:=k)];constructor
  ·rintro (⟨j,h1,h2⟩|h)
   ·exact⟨j,by omega,h2⟩
   ·split at h
    ·rename_i hc;rw[List.mem_singleton]at h;exact⟨k,by omega,hc,h.symm⟩
    ·cases h
  ·rintro ⟨j,h1,h2,h3⟩
   by_cases e:j=k
   ·subst e;right;rw[if_pos h2];exact List.mem_singleton.2 h3.symm
   ·exact .inl ⟨j,by omega,h2,h3⟩
theorem Sx{r:Rw}:∀{k:Nat},(∀i j:Nat,i<j->j<k->numOf (r i 0)<numOf (r j 0))->(YI r k).Nodup
 | 0,_=>List.nodup_nil
 |k+1,h=>by
  unfold YI;refine List.nodup_append.2 ⟨Sx fun i j h1 h2=>h i j h1 (by omega),?_,?_⟩
  ·split<;>simp
  ·intro a ha b hb e;split at hb
   ·rw[List.mem_singleton]at hb;obtain⟨j,h1,_,h3⟩:=Sw.1 ha;have:=h j k h1 (by omega);omega
   ·cases hb
theorem Adt{n:Nat->Int}{r:Nat->Rw}(h:∀q,q<8->0<=n q){x:Int}:x∈JS n r↔CN n r x:=by
 unfold JS CN;simp only[List.mem_flatMap,List.mem_range,List.mem_map];constructor
 ·rintro ⟨q,hq,j,hj,e⟩
  exact⟨q,hq,j,by have:=h q hq;omega,e⟩
 ·rintro ⟨q,hq,j,hj,e⟩
  exact⟨q,hq,j,by omega,e⟩
theorem rL5:A0.ok (rlL.getD 5 DZ):=fun U h hr _ _ _ _ _=>by
 have h0:=GQ (h.nth 0 rfl);have h1:L8 (U 0) (U.r 2) ((U.b 0).sm 0):=Gb (h.nth 1 rfl);obtain⟨h2,_⟩:=K1 (h.nth 2 rfl);have h2:U 1=Ka (U.r 2) (U 3).toNat:=h2;have h3:U 2=C4 (U.b 1).sv:=Af (g:=34) (ns:=[xv 2]) (rs:=[]) (ms:=[]) (bs:=[1]) (h.nth 3 rfl);have h4:U 3=U 0:=Jj (h.nth 4 rfl);have h5:U 1 ≠ U 2:=neT (h.nth 5 rfl);have h6:0<=U 0:=H2 (h.nth 6 rfl);have hk:AD.is 1 (U.b 1):=(hr.nth 0 rfl).2;obtain⟨k1,k2⟩:=Aox hk;refine absurd ?_ h5;rw[h2,h3,h4,<-YJ,<-TX (r:=fun i=>(U.b 1).sr (8+i)) k2]
 congr 1
 refine List.Perm.length_eq ((List.perm_ext_iff_of_nodup (Sx fun i j hi hj=>h1.2.1 i j hi (by omega)) (Pu k1)).2 fun x=>?_);rw[Adt k2,Sw];have h0x:=h0 x;unfold QM at h0x;rw[h0x];constructor
 ·rintro ⟨j,hj,e1,e2⟩
  rw[<-e2];exact (Va h1 (j:=j) (by omega)).2 e1
 ·intro ht;obtain⟨j,hj,e⟩:=h1.2.2 x (by obtain⟨u,e,_⟩:=ht;rw[e];rfl);refine⟨j,by omega,?_,e⟩;rw[<-e]at ht;exact (Va h1 hj).1 ht
theorem rL6:A0.ok (rlL.getD 6 DZ):=fun U h _ _ _ _ _ _=>Hg (by
 obtain⟨h0,h1⟩:=K1 (h.nth 0 rfl);have h0:U 0=Ka (U.r 0) (U 1).toNat:=h0;have h1:0<=U 1:=h1;have:=(Qu (r:=U.r 0) (U 1).toNat).2;show U 0<=U 1;omega)
theorem rL7:A0.ok (rlL.getD 7 DZ):=fun U h _ _ _ _ _ _=>FN (by
 obtain⟨h0,h1⟩:=K1 (h.nth 0 rfl);have h0:U 0=Ka (U.r 0) (U 1).toNat:=h0;have:=(Qu (r:=U.r 0) (U 1).toNat).1;show 0<=U 0;omega)
theorem Aoi:Al A0.ok rlL:=.cons rL0 (.cons rL1 (.cons rL2 (.cons rL3 (.cons rL4 (.cons rL5 (.cons rL6 (.cons rL7 .nil)))))))
theorem Aoo:Al A0.ok rlW:=.cons (fun U h _ _ _ _ _ _=>FN (by
 have h0:0<=U 0:=H2 (h.nth 0 rfl);have h1:U 0<=32:=Ig (h.nth 1 rfl);show 0<=IntKind.i64.wrap (8*U 0);rw[IntKind.wrap_i64];omega))
 (.cons (fun U h _ _ _ _ _ _=>Hg (by
  have h0:0<=U 0:=H2 (h.nth 0 rfl);have h1:U 0<=32:=Ig (h.nth 1 rfl);show IntKind.i64.wrap (8*U 0)<=256;rw[IntKind.wrap_i64];omega))
 (.cons (fun U h _ _ _ _ _ _=>Yr (by
  have h0:U 2<IntKind.i64.wrap (8*IntKind.i64.wrap (U 0+U 1)):=RY (h.nth 0 rfl);have h1:0<=U 0:=H2 (h.nth 1 rfl);have h2:U 0<=32:=Ig (h.nth 2 rfl);have h3:0<=U 1:=H2 (h.nth 3 rfl);have h4:U 1<=IntKind.i64.wrap (32-U 0):=Ig (h.nth 4 rfl);show U 2<256;rw[IntKind.wrap_i64]at h4;rw[IntKind.wrap_i64 (U 0+U 1),IntKind.wrap_i64]at h0;omega)) .nil))
theorem Al5:Al A0.ok rl:=Al.append Aop (Al.append Aoj (Al.append Aok (Al.append Aoh (Al.append Aoq (Al.append Aon (Al.append Aom (.cons Akf (.cons Akg (Al.append Aol (Al.append Aoi Aoo))))))))))
def Ap6:Bq:={f:=0,args:=[],bl:=[],n:=0,np:=0,hi:=0,outs:=[]}
def Dx(v:BP)(i:Nat):Bq:=match v.cs[i]? with |some p=>p.1 |none=>Ap6
def BG(v:BP)(i:Nat):Bool:=match v.cs[i]? with |some p=>p.2 |none=>false
theorem Bw{W:Wd}{v:BP}(hv:AZ W v){i:Nat}(h:BG v i=true):(Dx v i).ok W/\∀U,(Dx v i).q U:=by
 unfold BG at h;unfold Dx;cases hi:v.cs[i]? with
 |none=>rw[hi]at h;cases h
 |some p=>
  rw[hi]at h;have:=hv.cs.nth i hi;exact⟨this.1,this.2 h⟩
theorem Hh{W:Wd}{F:Ak}{q:An->Prop}{f:Em}{o:Ds}(h:F.post W q f o U):∃Y,o.post Y/\(∀i,i<F.nb->(U.b 0).sv i=Y.v i/\(U.b 0).sr i=Y.r i/\(U.b 0).sm i=Y.m i)/\
 (∀i,(U.b F.np).sv i=(f.te.getD i (.lit 0)).den Y/\(U.b F.np).sr i=Y.r (f.tr.getD i 0)/\(U.b F.np).sm i=Y.m (f.tm.getD i 0))/\Tg F.hi ((f.Se F.nb F.np).sig Y) U:=by
 obtain⟨Yq0,Y,h1,_,h3,h4,h5,_,h7⟩:=h;refine⟨Y,h4,fun i hi=>?_,fun i=>?_,h7⟩
 ·rw[h3];exact⟨(h1.v i hi).symm,(h1.r i hi).symm,(h1.m i hi).symm⟩
 ·rw[h5];exact⟨rfl,rfl,rfl⟩
theorem Ak9{α β:Type}{p:α×β}{l:List α}{m:List β}(h:p∈l.zip m):∃i:Nat,l[i]? =some p.1/\m[i]? =some p.2:=by
 obtain⟨i,hi⟩:=List.getElem?_of_mem h;refine⟨i,?_⟩;rw[List.getElem?_zip_eq_some]at hi;exact hi
end Eng
end
