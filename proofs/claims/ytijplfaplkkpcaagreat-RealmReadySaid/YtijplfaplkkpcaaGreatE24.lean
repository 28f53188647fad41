/- The threads as a thing. No conditions beside those in its theorems. -/
import Derived.Test.YtijplfaplkkpcaaGreatE20
import Derived.Test.YtijplfaplkkpcaaGreatE22
set_option linter.unusedVariables false
set_option linter.unusedSimpArgs false
set_option linter.unusedSectionVars false
set_option linter.constructorNameAsVariable false
set_option maxRecDepth 100000
noncomputable section
namespace V
open Go Eng
def n12:List Nat:=[0x18798a600678cbaa714dca329a8218d01259f4d40cbce22af41b7c4f198389cf59803587c63bbc4e0aa4d91fca06b08c34788d09e58b91f534d7266695e6caa245fc9cca9a006400aaf0392f885d0386cf44eb439cd167aee1e6e406aee686e874d622892d03914cae88b1ba020e674ac515614099e0314febef8af9be195e75972dd0f0af9b794ee7c4ee11930a18e7f3cb53a13b13716c49d2cec1e2238def94d083630ea7bd9706a83163e17652b87fd3198f50b2e758f6682a31aea65360f624b7ccd3a4aaffd689102914bef3eb21dbbc1a576589a4e539f88fd5aca89f302f3ce126cbdbbc7a7902c2fcfb7b60fbeeefc884ec236d9f090aa6845707fa2e95cc923ed2b98ce5c,
 0x3b1ab4901b4121639fee0a301596d655da780efef7ccef32892a34c005a4d7d400859a7ef33bc9af04832e8bf5495fb38462720bc5b2e819a2b104edb8dc1c679488fbf3ad2903540f928e9767148e1c21fab87099f438e430531dd83d9ef0668cc56069a63e4e26642e0c339a0beb6737d3143e2343cde8b281b9f268e447906458c44a5362a911e33c5bc37a6ddd7e620491e8305907b01963847f122f30eee5b5bedfefd606fd7a44ad52,
 0x2f51e7d2823c6fdd9abf0a8195c5b3cceda1fbade00efad6be39c043a7278892bd029d12c21d9ca51f9e0ab087f7b1c6e6525de03b562e144baa36804521b3a4c8547e9970abe189eb2505ceb3f6fb892f2e01cb0f8b0ba8d14a7988006a281101d945a1d8dd9aead,
 0x6df5b470c307441da8a3ed434a19fa2fe3324093af08d2deabb93244b29a3312e130b7111a08746c163cd3e92324bca494aa190ccfa18eae7631e52a2438369e0ccff39058a832008a176c48aab457f6dbf272a185e7689ab0d0f5ca3bac5debdd07761769b2edabbd2c235146edb1f9bda63d798d7a698b9754e3644c57f368224beb30c16714e9601358c84b74df6751835fc277504862bbe02dc012578a9ebb41cdeeb36a7c5b0aa40a38ee60270deb3b1dbbb6b58e1507f218f9a8875441cff65d484026a42a668e7b3c37304290180744a99f3463547f462d0d8a9d0d94c8a0,
 0x2f72f680275dc9236191ddd6de0e39659fe363cf7d0897b5b14b2a8a87b9a65031ab98eaf69993480a0f98024566648afbcfb1bf5842b1e0438b33ce919403070d756b21da6d93d4dae191b95c82917d4b43a357ab3f0d943fee3d43daee3d0d33ce2169970fedbc2932b4933f1c82f945a5107b3d5cf894e0c134c6078a29d018ce03936ab7964be782f34e5facffd79ea2b7655be43946bdb4dcb5e994e93063fd91f6a32e75f9748e5d546d20b44c41f880b8f38794985f01481ac730cfd38b2fea5ede56d1283fd3af4ad061c17a25a2a7d72ddf78c43e0ca2e80bfac02770de4d5d872f062e30c53af9079f8407c7a7810a79ee16fbe404b82142f5288cc028434585767e06902a5d0b2ce2853bbb9175bf20f742587c74916c91bb8990cfdb796abf9f829af4d83935bc95305e61e3f310cdb67,
 0x4c77bb7bfbb3bb77b129ddf2e346eaf2d2745dfa4b242b234e20c7a921481fb556fe07c86f52814f6f0ecef7af85505ccde7b38878fd0be4c17f0dc55f499c3a243bacf7fbf4b9d3db352ff28d5fca59294f44260443d86f6dcb57cb8f86c96c11ce639df97b876ed9,
 0x5973ede8e346417b1a288e54f23835808c40687b89e16576ff160452b2effe7fb375561c8db7e9f824538023cd66230fce333476f7bc4c7a5cb4ce0c196f6b96bc634181a3ff22645029171ea1a02fb611b63bd5b5e286acbb06a430bbbd9e074c392e0111a99fd322de0d8620a3db42dbe85f5833beaf6b2828dded6d259b2006411abbf,
 0x9fa32688833b4be38e8f190e7d2f88bcf4693d8365041c9c90fe738fe1ccd5790c6d4e55adbd82f3a6acae1f1917f1330b4e97030155bc776418443504d3dfb891e2751d186507463d7e3ea79a53e10a]
def i12:List Eng.Item:=Dc.items WD.fu n12
def e12:BP:=e0.DP WD i12
theorem O9:AZ WD e12:=Bk BZ Nc (by decide +kernel)
end V
namespace V
open Go Eng
def UO:Ak:={D:=Hm.D,nb:=Hm.nb,cf:=Hm.cf,rd:=Hm.rd,mp:=Hm.mp,kind:=Hm.kind,np:=2,hi:=27,args:=[.one (.sym .i64 (.var 1))],M8:=[],outs:=[⟨[(.lit 0)],[0],[0],[0,1],.Dh [.agg [.int .i64 0,.int .i64 0,.int .i64 0,.int .u64 0,.int .u64 0,.int .u64 0,.int .u64 0,.int .u64 0,.bool false,.int .i64 0,.int .i64 0,.int .u64 0,.int .u64 0,.int .u64 0,.int .u64 0,.int .u64 0,.int .i64 0,.int .i64 0,.bool false,.bool false,.bool false,.bool false,.int .u64 0,.int .u64 0],.one (.bool false)],[],1,[],[],[(.lit 0)],[0],[0],[AG 70 [(.var 1)] [] [] [0]]⟩,⟨[(.lit 0)],[0],[0],[0,1],.Dh [.agg [.sym .i64 (.var 3),.sym .i64 (.var 4),.sym .i64 (.var 5),.sym .u64 (.var 6),.sym .u64 (.var 7),.sym .u64 (.var 8),.sym .u64 (.var 9),.sym .u64 (.var 10),.sb (.var 11),.sym .i64 (.var 12),.sym .i64 (.var 13),.sym .u64 (.var 14),.sym .u64 (.var 15),.sym .u64 (.var 16),.sym .u64 (.var 17),.sym .u64 (.var 18),.sym .i64 (.var 19),.sym .i64 (.var 20),.sb (.var 21),.sb (.var 22),.sb (.var 23),.sb (.var 24),.sym .u64 (.var 25),.sym .u64 (.var 26)],.one (.bool true)],[],1,[⟨.eql,(.var 3),(.var 1),true⟩,⟨.geq,(.var 1),(.lit 1),true⟩,⟨.leq,(.var 1),(.lit 65535),true⟩,cG 4,⟨.leq,(.var 4),(.lit 4),true⟩,cG 5,⟨.leq,(.var 5),(.lit 7),true⟩,cG 12,cG 13,cG 19,⟨.leq,(.var 19),(.lit 4096),true⟩,cG 20,⟨.leq,(.var 20),(.lit 4096),true⟩],[],[(.lit 0),(.Bd 0 (.var 2) 0),(.Bd 0 (.var 2) 1),(.Bd 0 (.var 2) 2),(.Bd 0 (.var 2) 3),(.Bd 0 (.var 2) 4),(.Bd 0 (.var 2) 5),(.Bd 0 (.var 2) 6),(.Bd 0 (.var 2) 7),(.Bd 0 (.var 2) 8),(.Bd 0 (.var 2) 9),(.Bd 0 (.var 2) 10),(.Bd 0 (.var 2) 11),(.Bd 0 (.var 2) 12),(.Bd 0 (.var 2) 13),(.Bd 0 (.var 2) 14),(.Bd 0 (.var 2) 15),(.Bd 0 (.var 2) 16),(.Bd 0 (.var 2) 17),(.Bd 0 (.var 2) 18),(.Bd 0 (.var 2) 19),(.Bd 0 (.var 2) 20),(.Bd 0 (.var 2) 21),(.Bd 0 (.var 2) 22),(.Bd 0 (.var 2) 23)],(zs 25),[0],[AG 71 (ap [(.var 1)] (vs 3 24)) [] [] [0]]⟩]}
abbrev O1:Bq:=Dx e12 5
def Om:Ak:={D:=Hm.D,nb:=Hm.nb,cf:=Hm.cf,rd:=Hm.rd,mp:=Hm.mp,kind:=Hm.kind,np:=2,hi:=4,args:=[.one (.sym .i64 (.var 1))],M8:=[⟨.lss,(.var 1),(.lit 65536),true⟩],outs:=[⟨[(.lit 0)],[0],[0],[0,1],.one (.sym .i64 (.var 3)),[],1,[⟨.lss,(.var 1),(.lit 1),true⟩],[],[(.lit 0),(.var 3)],[0,0],[0],[]⟩,⟨[(.lit 0)],[0],[0],[0,1],.one (.sym .i64 (.var 3)),[],1,[],[],[(.lit 0),(.var 3)],[0,0],[0],[]⟩,⟨[(.lit 0)],[0],[4],[0,1],.one (.int .i64 0),[],1,[],[],[(.lit 0)],[0],[0],[AG 74 (ap [(.var 1),(.var 1)] (ap (z0 15) (ap [(.lit 4096),(.lit 4096)] (z0 6)))) [] [] [0,2]]⟩]}
abbrev O0:Bq:=Dx e12 6
def KT:Ak:={D:=Hm.D,nb:=Hm.nb,cf:=Hm.cf,rd:=Hm.rd,mp:=Hm.mp,kind:=Hm.kind,np:=2,hi:=4,args:=[.one (.sym .i64 (.var 1))],M8:=[],outs:=[⟨[(.lit 0)],[0],[0],[0,1],.one (.sym .i64 (.var 3)),[],1,[],[],[(.lit 0),(.var 3)],[0,0],[0],[AG 70 [(.var 1)] [] [] [0]]⟩,⟨[(.lit 0)],[0],[4],[0,1],.one (.int .i64 0),[],1,[],[],[(.lit 0)],[0],[0],[AG 73 [(.var 1)] [] [] [0,2]]⟩]}
abbrev Jf:Bq:=Dx e12 7
def On:Ak:={D:=Hm.D,nb:=Hm.nb,cf:=Hm.cf,rd:=Hm.rd,mp:=Hm.mp,kind:=Hm.kind,np:=25,hi:=27,args:=[.agg [.sym .i64 (.var 1),.sym .i64 (.var 2),.sym .i64 (.var 3),.sym .u64 (.var 4),.sym .u64 (.var 5),.sym .u64 (.var 6),.sym .u64 (.var 7),.sym .u64 (.var 8),.sb (.var 9),.sym .i64 (.var 10),.sym .i64 (.var 11),.sym .u64 (.var 12),.sym .u64 (.var 13),.sym .u64 (.var 14),.sym .u64 (.var 15),.sym .u64 (.var 16),.sym .i64 (.var 17),.sym .i64 (.var 18),.sb (.var 19),.sb (.var 20),.sb (.var 21),.sb (.var 22),.sym .u64 (.var 23),.sym .u64 (.var 24)]],M8:=[cG 2,⟨.leq,(.var 2),(.lit 4),true⟩,cG 3,⟨.leq,(.var 3),(.lit 7),true⟩,cG 10,cG 11,cG 17,⟨.leq,(.var 17),(.lit 4096),true⟩,cG 18,⟨.leq,(.var 18),(.lit 4096),true⟩],outs:=[⟨[(.lit 0)],[0],[0],[0,1],.one (.sym .i64 (.var 26)),[],1,[],[],[(.lit 0),(.var 26)],[0,0],[0],[AG 70 [(.var 1)] [] [] [0]]⟩,⟨[(.lit 0)],[0],[27],[0,1],.one (.int .i64 0),[],1,[⟨.geq,(.var 1),(.lit 1),true⟩],[],[(.lit 0)],[0],[0],[AG 72 (ap [(.var 1)] (vs 1 24)) [] [] [0,25]]⟩]}
abbrev Mi:Bq:=Dx e12 8
def UN:Ak:={D:=Hm.D,nb:=Hm.nb,cf:=Hm.cf,rd:=Hm.rd,mp:=Hm.mp,kind:=Hm.kind,np:=1,hi:=4,args:=[],M8:=[],outs:=[⟨[(.lit 0)],[0],[0],[0,1],.one (.C2 1 24 (.var 2)),[(1,.row 3 24 (.var 2) [])],2,[cG 2,⟨.leq,(.var 2),(.lit 65536),true⟩],[(3,(AcG [(3,.i .i64),(5,.i .u64),(1,.b),(2,.i .i64),(5,.i .u64),(2,.i .i64),(4,.b),(2,.i .u64)]))],[(.lit 0),(.var 2),(.lit 0)],[0,0,3],[0,2],[AG 75 [(.var 2)] [3] [] [0]]⟩]}
abbrev Rb:Bq:=Dx e12 9
def Qh:Ak:={D:=Hm.D,nb:=Hm.nb,cf:=Hm.cf,rd:=Hm.rd,mp:=Hm.mp,kind:=Hm.kind,np:=2,hi:=4,args:=[.one (.sym .i64 (.var 1))],M8:=[],outs:=[⟨[(.lit 0)],[0],[0],[0,1],.one (.int .i64 0),[],1,[],[],[(.lit 0)],[0],[0],[]⟩,⟨[(.lit 0)],[0],[0],[0,1],.one (.sym .i64 (.var 3)),[],1,[⟨.geq,(.var 3),(.lit 1),true⟩],[],[(.lit 0),(.var 3)],[0,0],[0],[]⟩]}
abbrev Qq:Bq:=Dx e12 10
end V
namespace V
open Go Eng
variable {U:An}
theorem kT:∀B,AD.is Hm.kind B↔∃Y,B=Hm.D.Am WD Y/\Kn Hm.cf Hm.rd (fun _=>True) Y Hm.mp:=H6 (s:=Hm) (by simp[C5]) (Ug 1) (by decide +kernel)
def Ao9(e:E):List E:=e::e::(ap (z0 15) (ap [.lit 4096,.lit 4096] (z0 6)))
theorem It:Kt [BG e12 5,(UO.fits O1&&UO.HO O1),BW O1 0 (AG 60 [.var 2] [] [0]),BW O1 1 (AG 61 [.var 2] [] [0]),
 BG e12 6,(Om.fits O0&&Om.HO O0),BW O0 2 (AG 60 [.var 2] [] [0]),BW O0 2 (AG 58 (Ao9 (.var 2)) [] [0,4]),
 BG e12 7,(KT.fits Jf&&KT.HO Jf),BW Jf 0 (AG 60 [.var 2] [] [0]),BW Jf 1 (AG 61 [.var 2] [] [0]),BW Jf 1 (AG 59 [.var 2] [] [0,4]),
 BG e12 8,(On.fits Mi&&On.HO Mi),BW Mi 0 (AG 60 [.var 2] [] [0]),BW Mi 1 (AG 61 [.var 2] [] [0]),BW Mi 1 (AG 58 (.var 2::(List.range 24).map fun c=>.var (c+2)) [] [0,27]),
 BG e12 9,(UN.fits Rb&&UN.HO Rb),BW Rb 0 (AG 63 [.var 2] [3] [0])]=true:=by decide +kernel
theorem AnC{c:Nat}(hc:c<24):c=0\/c=1\/c=2\/c=3\/c=4\/c=5\/c=6\/c=7\/c=8\/c=9\/c=10\/c=11\/c=12\/c=13\/c=14\/c=15\/c=16\/c=17\/c=18\/c=19\/c=20\/c=21\/c=22\/c=23:=by omega
theorem Anc:(UO.Bo WD (fun _=>True) O1).ok WD:=Ak.Y0 (Bw O9 (Ab It (i:=0) rfl)) (Ab It (i:=1) rfl) (Nx fun i f o h1 h2 U hp=>by
 obtain⟨Y,p1,p2,p3,p4⟩:=Hh hp;have hx:U 1=Y 2:=p4.v 1 (by decide);have hm:(U.b 0).sm 0=Y.m 0:=(p2 0 (by decide)).2.2
 match i,h1 with
 | 0,h1=>
  cases h1;have k:Y.m 0 (Y 2)=none:=Af (Ba (Ab It (i:=2) rfl) h2 p1);exact .cons (Az (g:=70) (ns:=[.var 1]) (rs:=[]) (ms:=[]) (bs:=[0]) (show (U.b 0).sm 0 (U 1)=none from by rw[hm,hx];exact k)) .nil
 | 1,h1=>
  cases h1;have k:(Y.m 0 (Y 2)).isSome=true:=Af (Ba (Ab It (i:=3) rfl) h2 p1);refine .cons (Az (g:=71) (ns:=.var 1::(List.range 24).map fun c=>.var (3+c)) (rs:=[]) (ms:=[]) (bs:=[0]) (show ((U.b 0).sm 0 (U 1)).isSome=true/\_ from ⟨by rw[hm,hx];exact k,fun c hc hi=>?_⟩) (h1:=by simp)) .nil;show Dm ((U.b 0).sm 0 (U 1)) c=_;rw[hm,hx];have hv:∀c,c<24->((((List.range 24).map fun c=>E.var (3+c)).map (E.den U)).getD c 0)=U (3+c):=fun c hc=>by
   simp[Iw,List.getElem?_map,List.getElem?_range hc];rfl
  rw[hv c hc];have h5:=p4.v (3+c) (show 3+c<27 by omega);rcases AnC hc with rfl|rfl|rfl|rfl|rfl|rfl|rfl|rfl|rfl|rfl|rfl|rfl|rfl|rfl|rfl|rfl|rfl|rfl|rfl|rfl|rfl|rfl|rfl|rfl<;>first|(cases hi;done)|exact h5.symm
 |n+2,h1=>cases h1) kT
theorem Ana:(Om.Bo WD (fun _=>True) O0).ok WD:=Ak.Y0 (Bw O9 (Ab It (i:=4) rfl)) (Ab It (i:=5) rfl) (Nx fun i f o h1 h2 U hp=>by
 obtain⟨Y,p1,p2,p3,p4⟩:=Hh hp;have hx:U 1=Y 2:=p4.v 1 (by decide);have hm:(U.b 0).sm 0=Y.m 0:=(p2 0 (by decide)).2.2
 match i,h1 with
 | 0,h1=>cases h1;exact .nil
 | 1,h1=>cases h1;exact .nil
 | 2,h1=>
  cases h1;have hn:(U.b Om.np).sm 0=Y.m 4:=(p3 0).2.2;have k:Y.m 0 (Y 2)=none:=Af (Ba (Ab It (i:=6) rfl) h2 p1);obtain⟨u,k1,k2⟩:Put (Y.m 0) (Y.m 4) (Y 2) _:=Af (Ba (Ab It (i:=7) rfl) h2 p1) (h1:=by decide);refine .cons (Az (g:=74) (ns:=ap [.var 1,.var 1] (ap (z0 15) (ap [.lit 4096,.lit 4096] (z0 6)))) (rs:=[]) (ms:=[]) (bs:=[0,2]) (show (U.b 0).sm 0 (U 1)=none/\Put ((U.b 0).sm 0) ((U.b Om.np).sm 0) (U 1) _ from ⟨by rw[hm,hx];exact k,u,fun c hc hi=>?_,fun y=>by rw[hn,hm,hx];exact k2 y⟩)) .nil;rw[k1 c hc hi];rcases AnC hc with rfl|rfl|rfl|rfl|rfl|rfl|rfl|rfl|rfl|rfl|rfl|rfl|rfl|rfl|rfl|rfl|rfl|rfl|rfl|rfl|rfl|rfl|rfl|rfl<;>first|exact hx.symm|rfl
 |n+3,h1=>cases h1) kT
theorem Ajf:(KT.Bo WD (fun _=>True) Jf).ok WD:=Ak.Y0 (Bw O9 (Ab It (i:=8) rfl)) (Ab It (i:=9) rfl) (Nx fun i f o h1 h2 U hp=>by
 obtain⟨Y,p1,p2,p3,p4⟩:=Hh hp;have hx:U 1=Y 2:=p4.v 1 (by decide);have hm:(U.b 0).sm 0=Y.m 0:=(p2 0 (by decide)).2.2
 match i,h1 with
 | 0,h1=>
  cases h1;have k:Y.m 0 (Y 2)=none:=Af (Ba (Ab It (i:=10) rfl) h2 p1);exact .cons (Az (g:=70) (ns:=[.var 1]) (rs:=[]) (ms:=[]) (bs:=[0]) (show (U.b 0).sm 0 (U 1)=none from by rw[hm,hx];exact k)) .nil
 | 1,h1=>
  cases h1;have hn:(U.b KT.np).sm 0=Y.m 4:=(p3 0).2.2;have k:(Y.m 0 (Y 2)).isSome=true:=Af (Ba (Ab It (i:=11) rfl) h2 p1);have k2:UT (Y.m 0) (Y.m 4) (Y 2):=Af (Ba (Ab It (i:=12) rfl) h2 p1);exact .cons (Az (g:=73) (ns:=[.var 1]) (rs:=[]) (ms:=[]) (bs:=[0,2]) (show ((U.b 0).sm 0 (U 1)).isSome=true/\UT ((U.b 0).sm 0) ((U.b KT.np).sm 0) (U 1) from ⟨by rw[hm,hx];exact k,by rw[hn,hm,hx];exact k2⟩)) .nil
 |n+2,h1=>cases h1) kT
theorem Ane:(On.Bo WD (fun _=>True) Mi).ok WD:=Ak.Y0 (Bw O9 (Ab It (i:=13) rfl)) (Ab It (i:=14) rfl) (Nx fun i f o h1 h2 U hp=>by
 obtain⟨Y,p1,p2,p3,p4⟩:=Hh hp;have hv:∀c,c<24->U (c+1)=Y (c+2):=fun c hc=>by
  rcases AnC hc with rfl|rfl|rfl|rfl|rfl|rfl|rfl|rfl|rfl|rfl|rfl|rfl|rfl|rfl|rfl|rfl|rfl|rfl|rfl|rfl|rfl|rfl|rfl|rfl<;>exact p4.v _ (by decide)
 have hx:U 1=Y 2:=hv 0 (by decide);have hm:(U.b 0).sm 0=Y.m 0:=(p2 0 (by decide)).2.2
 match i,h1 with
 | 0,h1=>
  cases h1;have k:Y.m 0 (Y 2)=none:=Af (Ba (Ab It (i:=15) rfl) h2 p1);exact .cons (Az (g:=70) (ns:=[.var 1]) (rs:=[]) (ms:=[]) (bs:=[0]) (show (U.b 0).sm 0 (U 1)=none from by rw[hm,hx];exact k)) .nil
 | 1,h1=>
  cases h1;have hn:(U.b On.np).sm 0=Y.m 27:=(p3 0).2.2;have k:(Y.m 0 (Y 2)).isSome=true:=Af (Ba (Ab It (i:=16) rfl) h2 p1);obtain⟨u,k1,k2⟩:Put (Y.m 0) (Y.m 27) (Y 2) _:=Af (Ba (Ab It (i:=17) rfl) h2 p1) (h1:=by simp);refine .cons (Az (g:=72) (ns:=.var 1::(List.range 24).map fun c=>.var (c+1)) (rs:=[]) (ms:=[]) (bs:=[0,25]) (show ((U.b 0).sm 0 (U 1)).isSome=true/\Put ((U.b 0).sm 0) ((U.b On.np).sm 0) (U 1) _ from ⟨by rw[hm,hx];exact k,u,fun c hc hi=>?_,fun y=>by rw[hn,hm,hx];exact k2 y⟩) (h1:=by simp)) .nil;rw[k1 c hc hi];have e1:((((List.range 24).map fun c=>E.var (c+2)).map (E.den Y)).getD c 0)=Y (c+2):=by
   simp[Iw,List.getElem?_map,List.getElem?_range hc];rfl
  have e2:((((List.range 24).map fun c=>E.var (c+1)).map (E.den U)).getD c 0)=U (c+1):=by
   simp[Iw,List.getElem?_map,List.getElem?_range hc];rfl
  exact e1.trans ((hv c hc).symm.trans e2.symm)
 |n+2,h1=>cases h1) kT
theorem Anb:(UN.Bo WD (fun _=>True) Rb).ok WD:=Ak.Y0 (Bw O9 (Ab It (i:=18) rfl)) (Ab It (i:=19) rfl) (Nx fun i f o h1 h2 U hp=>by
 obtain⟨Y,p1,p2,p3,p4⟩:=Hh hp;have hm:(U.b 0).sm 0=Y.m 0:=(p2 0 (by decide)).2.2
 match i,h1 with
 | 0,h1=>
  cases h1;have hx:U 2=Y 2:=p4.v 2 (by decide);have hr:U.r 3=Y.r 3:=p4.r 3 (by decide);have k:L8 (Y 2) (Y.r 3) (Y.m 0):=Af (Ba (Ab It (i:=20) rfl) h2 p1);exact .cons (Az (g:=75) (ns:=[.var 2]) (rs:=[3]) (ms:=[]) (bs:=[0]) (show L8 (U 2) (U.r 3) ((U.b 0).sm 0) from by rw[hm,hx,hr];exact k)) .nil
 |n+1,h1=>cases h1) kT
theorem AkL:Kt [BG e12 10,(Qh.fits Qq&&Qh.HO Qq)]=true:=by decide +kernel
theorem Ajg:(Qh.Bo WD (fun _=>True) Qq).ok WD:=Ak.Y0 (Bw O9 (Ab AkL (i:=0) rfl)) (Ab AkL (i:=1) rfl) (HX (by decide)) kT
end V
end
