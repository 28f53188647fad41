/- The contracts of all things, together. No conditions beside those in its theorems. -/
import Derived.Test.YtijplfaplkkpcaaGreatQP
import Derived.Test.YtijplfaplkkpcaaGreatE24
import Derived.Test.YtijplfaplkkpcaaGreatE36
import Derived.Test.YtijplfaplkkpcaaGreatE37
set_option linter.unusedVariables false
set_option linter.unusedSimpArgs false
set_option linter.unusedSectionVars false
set_option linter.constructorNameAsVariable false
set_option maxRecDepth 100000
noncomputable section
namespace V
open Go Eng
def DH(n:Nat):Bj:=match Dc.items WD.fu [n] with | [.Bo c _]=>c|_=>⟨0,[],[],0,0,0,[],[],[],[],[]⟩
def Qi:Ak:={D:=Zc.D,nb:=Zc.nb,cf:=Zc.cf,rd:=Zc.rd,mp:=Zc.mp,kind:=Zc.kind,np:=1,hi:=2,args:=[],M8:=[],outs:=[⟨[(.lit 0)],[0],[0],(ns 0 26),.one (.any),[],1,[],[],[(.lit 0)],[0],[0],[]⟩]}
theorem Ap2:(Qi.fits MO&&Qi.HO MO)=true:=by decide +kernel
theorem Ajh:(Qi.Bo WD (fun _=>True) MO).ok WD:=Ak.Y0 ⟨Af2,fun _=>trivial⟩ Ap2 (HX (by decide)) Arb
def AfJ:Bj:=DH 0x1ab3f2b613f6f386a10b29add0023bfb8bd3ca628280c652338a543b5eaff9c032281172463b63b9fe
theorem Ad0:AfJ.Bo.ok WD:=Bj.same (d:=Eng.dI) AkO (fun _=>trivial) (by decide +kernel)
def AfK:Bj:=DH 0xf84225253dc08971d326447aadfab0dd4ae7edf290e325baa0efb68f1097227a3079787bceb09ff411d1
theorem Ad1:AfK.Bo.ok WD:=Bj.same (d:=Eng.dO) AkP (fun _=>trivial) (by decide +kernel)
def AfM:Bj:=DH 0x153971d364209ce3d6cb03f40b1eee1773803fd0591364e3f9bb2cf1b235e5b2e8fd9dcc6f2e2
theorem Ad3:AfM.Bo.ok WD:=Bj.same (d:=(KA 366 thK)) (AbK _) (fun _=>trivial) (by decide +kernel)
def AfN:Bj:=DH 0x20063873276429e2cf024ef1dfc1c79bccdd92afad5be1734f98cef4f5a50efac0904a1956
theorem Ad4:AfN.Bo.ok WD:=Bj.same (d:=(KA 374 (.s::AiI))) (AbL _) (fun _=>trivial) (by decide +kernel)
def AfL:Bj:=DH 0x4b76fb31678ef369d90173d6af40ac6c8ff91f20715e54653a88b24b275807538b8ea13f024
theorem Ad2:AfL.Bo.ok WD:=Bj.same (d:=Mq) Ub (fun _=>trivial) (by decide +kernel)
def Ab9:Bj:=DH 0xa7767ac7a85e1b2db22342982e30080abd228d93d488578de5a4
theorem Aal:Ab9.Bo.ok WD:=Bj.same (d:=(UM.Kb WD (fun _=>True) Oz)) (Ak.AL AmY) (fun _=>trivial) (by decide +kernel)
def XC:Bj:=DH 0x3283a331673fe8c19dc57c34200e73ab2ac6ed5912aa20061cca06d75af341bcebe1517f6a21279df6
theorem XD:XC.Bo.ok WD:=Bj.same (d:=(IW.Kb WD (fun _=>True) Je)) (Ak.AL Ajc) (fun _=>trivial) (by decide +kernel)
def Ab7:Bj:=DH 0xb89caabfd0a8122584aab07210a3227d1e791c11b04641ac1c6c39948a2f5c30ef9cef437779b7aa62c6c06cf39bc6aa5ab61216401d8db505431d
theorem Aaj:Ab7.Bo.ok WD:=Bj.same (d:=(LW.Kb WD (fun _=>True) Mh)) (Ak.AL AmW) (fun _=>trivial) (by decide +kernel)
def Ab8:Bj:=DH 0x3b471728ce7b717caed427938146076f70d9ba01e551c25acefa959bb6f3d596a45
theorem Aak:Ab8.Bo.ok WD:=Bj.same (d:=(UL.Kb WD (fun _=>True) Oy)) (Ak.AL AmX) (fun _=>trivial) (by decide +kernel)
def AbD:Bj:=DH 0x486ee9017bed669b60f3015fe16392e43997b195647542c722b5010f93bb7adad9bd0effb3217071959aec1fc137d8319696e8d0a5bcd3006bc8d6ed5b48d605f449757529c0ce110b0ab74c68eded9f126bbb6653ee10cd574b626d1e9697bfa57579a55aaa805a6be2f4cdf1678c4067f91a9c5706d4e16ac53484390aa1e
theorem Aap:AbD.Bo.ok WD:=Bj.same (d:=(UO.Kb WD (fun _=>True) O1)) (Ak.AL Anc) (fun _=>trivial) (by decide +kernel)
def AbB:Bj:=DH 0xb3efa665bb0baa4d7e1c15d1708cbc4a814a2ebab45c36025b636e0762ce880a7d2789b69a4767186d56d60a873a58a27ea1d08cb5ede2
theorem Aan:AbB.Bo.ok WD:=Bj.same (d:=(Om.Kb WD (fun _=>True) O0)) (Ak.AL Ana) (fun _=>trivial) (by decide +kernel)
def XI:Bj:=DH 0x27758635c68fd33d6c72374b41f84190c3ccfe4062cb86d900be77fe358986f1e8af
theorem XJ:XI.Bo.ok WD:=Bj.same (d:=(KT.Kb WD (fun _=>True) Jf)) (Ak.AL Ajf) (fun _=>trivial) (by decide +kernel)
def AbG:Bj:=DH 0x3eced50e7abad1b836e2040decf71cf057229ecf716ff39c56be55bca326ab5268d0239c3cb14667a3b7f6a1550142188a7a51b0225b161d4574f77ed1cdb722045e7ba9c0379fd2969d3b25577accf162963ade5b65c75988d9e7a2631ff46339c7829e1ff0b5b555c96ebdd2a1fa4e905d65ea
theorem Aaq:AbG.Bo.ok WD:=Bj.same (d:=(On.Kb WD (fun _=>True) Mi)) (Ak.AL Ane) (fun _=>trivial) (by decide +kernel)
def AbC:Bj:=DH 0x37d11811878abf56c109a1fb1f137b7cec10fc44cbc6ff1ced269d8cfab244067
theorem Aao:AbC.Bo.ok WD:=Bj.same (d:=(UN.Kb WD (fun _=>True) Rb)) (Ak.AL Anb) (fun _=>trivial) (by decide +kernel)
def XK:Bj:=DH 0x8e7ba43470cfb7a3004f08360e981e
theorem XL:XK.Bo.ok WD:=Bj.same (d:=(Qh.Kb WD (fun _=>True) Qq)) (Ak.AL Ajg) (fun _=>trivial) (by decide +kernel)
def Ab4:Bj:=DH 0x3aa246fdd2986d76758e962783a3c236e6c6b825c2
theorem Aag:Ab4.Bo.ok WD:=Bj.same (d:=(UK.Kb WD (fun _=>True) Vh)) (Ak.AL AmT) (fun _=>trivial) (by decide +kernel)
def X6:Bj:=DH 0x2186199f02a31a6f00aeec34c4a4ca4
theorem X7:X6.Bo.ok WD:=Bj.same (d:=(Qf.Kb WD (fun _=>True) Qo)) (Ak.AL AiZ) (fun _=>trivial) (by decide +kernel)
def Ab3:Bj:=DH 0x1cb1c04b13d3d3464a3a86a68dcffeac4cc03104031b4
theorem Aaf:Ab3.Bo.ok WD:=Bj.same (d:=(UJ.Kb WD (fun _=>True) Vg)) (Ak.AL AmS) (fun _=>trivial) (by decide +kernel)
def Ab2:Bj:=DH 0x12b819e8acf89cb49b55612dc35b9b0986d4dbdd60e940121ac
theorem Aae:Ab2.Bo.ok WD:=Bj.same (d:=(UI.Kb WD (fun _=>True) Vf)) (Ak.AL AmR) (fun _=>trivial) (by decide +kernel)
def XA:Bj:=DH 0x88c9e064f316c74f6fd379b2214ab
theorem XB:XA.Bo.ok WD:=Bj.same (d:=(Qg.Kb WD (fun _=>True) Qp)) (Ak.AL Ajb) (fun _=>trivial) (by decide +kernel)
def TZ:Bj:=DH 0xcac176e914d2cb59581df172cbfa87caf26e169a927e41dcd70941d9f5dbbf1ece11db233343d56dbc7636bf812b88d3ac4
theorem V4:TZ.Bo.ok WD:=Bj.same (d:=(MG.Kb WD (fun _=>True) MN)) (Ak.AL Af1) (fun _=>trivial) (by decide +kernel)
def Ab5:Bj:=DH 0xc2425e0eb21c29e8efb35b6e287c4461a2982ffa482b454ece55d627
theorem Aah:Ab5.Bo.ok WD:=Bj.same (d:=Zz.Bo) AmU (fun _=>trivial) (by decide +kernel)
def X8:Bj:=DH 0x5bae178d5aea4c8649cfa78e57f159ae69237463
theorem X9:X8.Bo.ok WD:=Bj.same (d:=UP.Bo) Aja (fun _=>trivial) (by decide +kernel)
def Ab6:Bj:=DH 0x1ee40c927c6567c770f83309
theorem Aai:Ab6.Bo.ok WD:=Bj.same (d:=(Be.look 185 [.one (.sym .i64 (.var 1))] 2 6 (.one (.bool false)))) AmV (fun _=>trivial) (by decide +kernel)
def AbA:Bj:=DH 0x1e7780d3cce0be64a06def08fcdc4fa0a1a54d403dc39efa5fd08c6ba9526e8336be2d0aac711cc0973719b8e61e994b946a63c24eb8a08c05ddf9e193266a1c4da7a9247518fdc1b9b02cc458026476694e09b2a817a15c9a881d9a90c8811f646b2e72
theorem Aam:AbA.Bo.ok WD:=Bj.same (d:=Ip.Bo) AmZ (fun _=>trivial) (by decide +kernel)
def XE:Bj:=DH 0x1a53e501363279bad53d92bbbf0315a8eee193bbb3596
theorem XF:XE.Bo.ok WD:=Bj.same (d:=UQ.Bo) Ajd (fun _=>trivial) (by decide +kernel)
def XG:Bj:=DH 0x46ae9da719a43fb83a1899857
theorem XH:XG.Bo.ok WD:=Bj.same (d:=(Be.look 211 [] 1 7 (.one .any))) Aje (fun _=>trivial) (by decide +kernel)
def XM:Bj:=DH 0xb2c8bbf9fe08b2067f0997cfe
theorem XN:XM.Bo.ok WD:=Bj.same (d:=(Qi.Kb WD (fun _=>True) MO)) (Ak.AL Ajh) (fun _=>trivial) (by decide +kernel)
def XY:Bj:=DH 0x1a3b4b2d2d6a8b64e9f243e2c59
theorem XZ:XY.Bo.ok WD:=Bj.same (d:=(Ee 175 idA 2 8 [])) Af8 (fun _=>trivial) (by decide +kernel)
def XO:Bj:=DH 0x33bd2cef8cd3de0719e72428d
theorem XP:XO.Bo.ok WD:=Bj.same (d:=(Ee 165 (nN 0) 2 8 [])) Af3 (fun _=>trivial) (by decide +kernel)
def XQ:Bj:=DH 0x11e0b53966312bae35461a920c32aa
theorem XR:XQ.Bo.ok WD:=Bj.same (d:=(Ee 165 (nN 2) 2 8 [Sg])) Af4 (fun _=>trivial) (by decide +kernel)
def XS:Bj:=DH 0x2ae819568edc68d54ca83fcff44c49
theorem XT:XS.Bo.ok WD:=Bj.same (d:=(Ee 165 (nN 3) 2 8 [Sg])) Af5 (fun _=>trivial) (by decide +kernel)
def XU:Bj:=DH 0x2ae819568edc68d54ca83fd39f3a6c
theorem XV:XU.Bo.ok WD:=Bj.same (d:=(Ee 165 (nN 4) 2 8 [Sg])) Af6 (fun _=>trivial) (by decide +kernel)
def XW:Bj:=DH 0x18f21aa370d37e701ab52b0bca29b7
theorem XX:XW.Bo.ok WD:=Bj.same (d:=(Ee 165 (nN 8) 2 8 [Sg])) Af7 (fun _=>trivial) (by decide +kernel)
def Ua:Bj:=DH 0x3e2efbe90a683ee381a5ed25c64a120
theorem V5:Ua.Bo.ok WD:=Bj.same (d:=(Ee 165 (nN 16) 2 8 [Sg])) Ads (fun _=>trivial) (by decide +kernel)
def e20:BP:=⟨[(AfJ.Bo,true),(AfK.Bo,true),(AfM.Bo,true),(AfN.Bo,true),(AfL.Bo,true),(Ab9.Bo,true),(XC.Bo,true),(Ab7.Bo,true),(Ab8.Bo,true),(AbD.Bo,true),(AbB.Bo,true),(XI.Bo,true),(AbG.Bo,true),(AbC.Bo,true),(XK.Bo,true),(Ab4.Bo,true),(X6.Bo,true),(Ab3.Bo,true),(Ab2.Bo,true),(XA.Bo,true),(TZ.Bo,true),(Ab5.Bo,true),(X8.Bo,true),(Ab6.Bo,true),(AbA.Bo,true),(XE.Bo,true),(XG.Bo,true),(XM.Bo,true),(XY.Bo,true),(XO.Bo,true),(XQ.Bo,true),(XS.Bo,true),(XU.Bo,true),(XW.Bo,true),(Ua.Bo,true)],[],rl⟩
theorem AmH:AZ WD e20:=⟨.cons ⟨Ad0,fun _ _=>trivial⟩ (.cons ⟨Ad1,fun _ _=>trivial⟩ (.cons ⟨Ad3,fun _ _=>trivial⟩ (.cons ⟨Ad4,fun _ _=>trivial⟩ (.cons ⟨Ad2,fun _ _=>trivial⟩ (.cons ⟨Aal,fun _ _=>trivial⟩ (.cons ⟨XD,fun _ _=>trivial⟩ (.cons ⟨Aaj,fun _ _=>trivial⟩ (.cons ⟨Aak,fun _ _=>trivial⟩ (.cons ⟨Aap,fun _ _=>trivial⟩ (.cons ⟨Aan,fun _ _=>trivial⟩ (.cons ⟨XJ,fun _ _=>trivial⟩ (.cons ⟨Aaq,fun _ _=>trivial⟩ (.cons ⟨Aao,fun _ _=>trivial⟩ (.cons ⟨XL,fun _ _=>trivial⟩ (.cons ⟨Aag,fun _ _=>trivial⟩ (.cons ⟨X7,fun _ _=>trivial⟩ (.cons ⟨Aaf,fun _ _=>trivial⟩ (.cons ⟨Aae,fun _ _=>trivial⟩ (.cons ⟨XB,fun _ _=>trivial⟩ (.cons ⟨V4,fun _ _=>trivial⟩ (.cons ⟨Aah,fun _ _=>trivial⟩ (.cons ⟨X9,fun _ _=>trivial⟩ (.cons ⟨Aai,fun _ _=>trivial⟩ (.cons ⟨Aam,fun _ _=>trivial⟩ (.cons ⟨XF,fun _ _=>trivial⟩ (.cons ⟨XH,fun _ _=>trivial⟩ (.cons ⟨XN,fun _ _=>trivial⟩ (.cons ⟨XZ,fun _ _=>trivial⟩ (.cons ⟨XP,fun _ _=>trivial⟩ (.cons ⟨XR,fun _ _=>trivial⟩ (.cons ⟨XT,fun _ _=>trivial⟩ (.cons ⟨XV,fun _ _=>trivial⟩ (.cons ⟨XX,fun _ _=>trivial⟩ (.cons ⟨V5,fun _ _=>trivial⟩ (.nil))))))))))))))))))))))))))))))))))),.nil,Al5⟩
end V
end
