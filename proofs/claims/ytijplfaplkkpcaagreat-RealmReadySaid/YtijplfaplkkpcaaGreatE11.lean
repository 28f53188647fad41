/- Contracts and their proofs read off a number; structures of blocks as things. No conditions beside those in its theorems. -/
import Derived.Test.YtijplfaplkkpcaaGreatE10
set_option linter.unusedVariables false
set_option linter.unusedSimpArgs false
set_option linter.unusedSectionVars false
set_option linter.constructorNameAsVariable false
set_option maxRecDepth 100000
noncomputable section
namespace Eng.Dc
open Go Eng
abbrev Tb:=List (Nat×Nat)
def ta:Tb:=[(903,0),(121,1)]
def tb:Tb:=[(576,2),(85,3),(69,0),(60,4),(43,10),(41,34),(33,11),(25,5),(25,6),(19,9),(16,7),(15,8),(11,15),(5,4098),(1,1)]
def tc:Tb:=[(1019,0),(5,1)]
def td:Tb:=[(443,4),(321,5),(154,6),(103,3),(3,0)]
def te:Tb:=[(520,0),(192,4),(141,5),(77,19),(47,75),(47,76)]
def tf:Tb:=[(968,0),(56,1)]
def tg:Tb:=[(777,3),(63,6),(56,9),(39,4),(27,5),(22,11),(22,66),(11,7),(7,0)]
def th:Tb:=[(442,3),(137,5),(124,4),(121,0),(98,7),(59,11),(43,10)]
def ti:Tb:=[(512,1),(108,23),(104,3),(99,17),(45,2),(33,24),(32,0),(23,19),(18,9),(17,20),(16,5),(6,7),(3,11),(2,6),(2,12),(2,14),(1,16),(1,21)]
def tj:Tb:=[(250,3),(197,0),(102,72),(85,69),(79,70),(77,5),(54,4),(49,8),(44,6),(38,71),(26,74),(23,140)]
def tk:Tb:=[(949,0),(64,2),(11,1)]
def tl:Tb:=[(552,13),(157,0),(92,11),(86,14),(83,16),(24,2),(16,15),(10,1),(4,12)]
def tm:Tb:=[(426,0),(333,1),(147,7),(55,2),(46,6),(6,3),(6,4),(5,5)]
def tn:Tb:=[(340,4),(264,3),(172,5),(113,0),(90,2),(45,11)]
def to:Tb:=[(268,2),(220,0),(191,3),(93,4),(43,5),(36,6),(35,7),(34,10),(33,8),(33,9),(19,11),(19,12)]
def tp:Tb:=[(361,0),(303,2),(147,4),(147,5),(66,9)]
def tq:Tb:=[(427,2),(98,11),(66,10),(66,12),(66,13),(66,14),(66,15),(66,16),(66,17),(37,0)]
def tr:Tb:=[(506,2),(126,0),(100,3),(54,6),(38,5),(37,4),(34,10),(33,7),(33,8),(33,9),(30,11)]
def ts:Tb:=[(287,4),(246,0),(114,2),(102,3),(79,9),(54,13),(50,98),(41,5),(26,32),(25,6)]
def tt:Tb:=[(419,2),(168,5),(136,3),(108,0),(100,4),(51,6),(42,10)]
def tu:Tb:=[(664,0),(123,167),(123,295),(57,158),(57,164)]
def tv:Tb:=[(778,1),(246,0)]
def tw:Tb:=[(763,0),(72,41),(58,46),(55,7),(50,12),(26,65)]
def tx:Tb:=[(638,0),(195,6),(120,1),(44,3),(23,2),(4,4)]
def ty:Tb:=[(831,3),(130,4),(47,5),(15,6),(1,0)]
def tz:Tb:=[(109,2),(106,3),(96,0),(85,4),(72,5),(71,6),(59,7),(59,10),(54,8),(50,13),(49,9),(48,11),(47,12),(35,14),(34,15),(24,16),(13,17),(13,18)]
def taa:Tb:=[(928,3),(95,2),(1,0)]
def tab:Tb:=[(929,0),(95,1)]
def tac:Tb:=[(754,2),(224,3),(46,0)]
def tad:Tb:=[(313,2),(141,0),(134,4),(120,19),(63,69),(57,14),(50,76),(46,5),(34,84),(29,6),(19,122),(13,78),(5,1)]
def tae:Tb:=[(861,0),(163,1)]
def taf:Tb:=[(687,3),(91,4),(49,66),(47,10),(42,7),(35,0),(14,69),(13,12),(12,5),(11,6),(10,19),(9,8),(3,68),(1,1)]
def tag:Tb:=[(276,3),(243,4),(180,5),(89,6),(68,7),(62,0),(50,2),(31,12),(25,13)]
def tah:Tb:=[(510,1),(243,2),(218,0),(47,4),(6,5)]
def tai:Tb:=[(462,1),(436,0),(117,2),(5,4),(4,5)]
def taj:Tb:=[(552,0),(371,1),(71,2),(29,4),(1,5)]
def tak:Tb:=[(164,2),(131,11),(120,0),(87,10),(87,12),(87,13),(87,14),(87,15),(87,16),(87,17)]
def tal:Tb:=[(990,1),(34,0)]
def Oe:Tb:=[(226,4),(166,3),(129,0),(87,8),(86,9),(69,10),(53,2),(53,5),(51,7),(44,6),(34,11),(26,71)]
def tan:Tb:=[(892,0),(132,1)]
def tao:Tb:=[(283,0),(211,9),(154,6),(108,5),(93,8),(93,140),(82,7)]
def tap:Tb:=[(818,0),(206,1)]
def taq:Tb:=[(729,2),(237,3),(33,0),(25,4)]
def tar:Tb:=[(406,0),(192,4),(110,2),(102,5),(74,3),(57,7),(47,6),(18,74),(18,75)]
def tas:Tb:=[(932,3),(92,7)]
def tat:Tb:=[(583,0),(441,1)]
def tau:Tb:=[(504,3),(315,2),(200,4),(5,0)]
def tav:Tb:=[(871,2),(69,4),(50,0),(34,11)]
def taw:Tb:=[(187,0),(171,2),(170,3),(72,4),(71,5),(71,6),(71,7),(71,8),(71,9),(69,10)]
def tax:Tb:=[(559,2),(204,3),(46,0),(27,65537),(22,66),(21,4),(17,10),(15,1073741826),(13,11),(12,5),(11,18),(11,65538),(10,34),(9,65002),(7,6),(6,258),(4,4098),(4,650082),(3,1),(2,1002),(2,1020003),(2,1048578),(2,2020100),(2,100000052),(2,20000000102),(1,2010098),(1,8080004),(1,8090005),(1,100010062),(1,100010063),(1,101010059),(1,10000010032),(1,10000010033),(1,10000010036),(1,10000010072),(1,10001010077)]
def tay:Tb:=[(1023,0),(1,1)]
def taz:Tb:=[(917,3),(107,0)]
def tba:Tb:=[(661,3),(331,2),(32,0)]
def tbb:Tb:=[(324,0),(237,5),(139,4),(123,9),(108,6),(93,72)]
def tbc:Tb:=[(777,2),(244,3),(3,0)]
def tbd:Tb:=[(554,3),(399,4),(71,0)]
def tbe:Tb:=[(354,4),(244,3),(178,5),(100,0),(93,2),(55,11)]
def tbf:Tb:=[(329,2),(317,0),(46,3),(44,4),(12,1027),(12,1068),(12,1110),(12,1152),(12,1194),(12,1236),(12,1278),(12,1320),(12,1362),(12,1404),(12,1446),(12,1488),(12,1530),(12,1572),(12,1624),(12,1666),(12,1718),(12,1812),(12,1949),(12,2082),(12,2212),(12,2357),(12,2487),(12,2632)]
def tbg:Tb:=[(516,0),(294,1),(214,2)]
def tbh:Tb:=[(623,2),(132,5),(79,3),(74,4),(42,0),(31,8),(25,9),(18,6)]
def tbi:Tb:=[(1023,3),(1,0)]
def tbj:Tb:=[(1024,0)]
def tbk:Tb:=[(892,2),(128,3),(4,0)]
def tbl:Tb:=[(1019,2),(5,0)]
def tbm:Tb:=[(737,0),(81,125),(38,123),(35,124),(30,221),(25,218),(25,219),(25,232),(25,237),(3,1)]
def tbn:Tb:=[(232,0),(161,4),(139,2),(70,3),(46,12),(40,14),(39,10),(39,11),(39,13),(39,15),(39,16),(39,17),(37,5),(37,7),(14,74),(14,75)]
def tbo:Tb:=[(536,3),(169,4),(100,7),(79,11),(68,6),(65,5),(7,0)]
def tbp:Tb:=[(772,3),(90,10),(82,4),(72,5),(8,0)]
def tbq:Tb:=[(258,3),(257,0),(199,4),(80,5),(53,8),(51,10),(44,6),(44,9),(38,7)]
def tbr:Tb:=[(345,4),(314,0),(203,5),(162,18)]
def tbs:Tb:=[(1007,0),(17,1)]
def tbt:Tb:=[(645,2),(198,0),(101,7),(80,3)]
def tbu:Tb:=[(726,0),(298,1)]
def tbv:Tb:=[(726,3),(143,0),(121,4),(34,5)]
def tbw:Tb:=[(505,2),(356,3),(81,4),(51,6),(19,5),(12,0)]
def tbx:Tb:=[(211,0),(121,10),(118,8),(108,12),(86,3),(80,14),(66,6),(61,15),(41,11),(34,43),(29,16),(26,19),(26,29),(17,42)]
def tby:Tb:=[(379,4),(297,0),(184,18),(164,5)]
def tbz:Tb:=[(385,0),(145,2),(125,3),(76,9),(64,4),(64,10),(61,11),(55,7),(49,6)]
def tca:Tb:=[(573,2),(244,10),(204,16),(3,0)]
def tcb:Tb:=[(948,0),(76,1)]
def tcc:Tb:=[(307,3),(105,4),(102,5),(98,0),(88,12),(64,70),(47,10),(44,6),(37,80),(30,74),(24,73),(20,11),(19,14),(17,19),(16,23),(6,71)]
def tcd:Tb:=[(805,3),(122,4),(50,2),(33,5),(14,0)]
def tce:Tb:=[(935,2),(30,11),(29,0),(15,13),(15,30)]
def tcf:Tb:=[(1019,2),(5,0)]
def tcg:Tb:=[(360,2),(195,10),(174,0),(93,5),(52,103),(48,7),(37,100),(35,9),(30,117)]
def tch:Tb:=[(919,0),(105,1)]
def tci:Tb:=[(677,3),(126,4),(58,5),(45,0),(31,10),(22,6),(15,69),(14,70),(11,73),(9,74),(7,67),(6,66),(3,68)]
def tcj:Tb:=[(350,3),(265,4),(156,5),(73,10),(50,2),(36,0),(33,6),(27,13),(19,9),(15,14)]
def tck:Tb:=[(572,2),(74,0),(54,5),(46,7),(37,4),(31,27),(24,24),(23,30),(19,3),(16,10),(15,8),(14,21),(13,9),(13,31),(12,151),(10,152),(7,83),(6,98),(6,141),(5,115),(5,154),(5,193),(4,111),(4,120),(3,36),(3,74),(3,113)]
def tcl:Tb:=[(478,3),(198,11),(147,4),(73,26),(71,10),(52,5),(5,0)]
def tcm:Tb:=[(172,15),(167,1),(123,5),(106,2),(98,4),(97,0),(86,21),(75,12),(20,16),(16,8),(16,19),(15,13),(11,6),(9,7),(4,10),(3,17),(2,11),(2,20),(1,9),(1,22)]
def tcn:Tb:=[(554,0),(200,2),(108,3),(108,8),(54,77)]
def tco:Tb:=[(137,2),(128,0),(76,5),(76,6),(59,7),(52,4),(45,3),(41,8),(23,11),(20,10),(18,9),(16,21),(15,76),(14,20),(14,80),(13,99),(11,69),(10,78),(9,23),(9,25),(9,75),(8,19),(8,27),(8,29),(7,14),(7,15),(6,70),(6,73),(6,74),(6,79),(6,85),(5,34),(5,35),(4,36),(4,72),(4,97),(3,37),(3,38),(3,39),(3,40),(3,41),(3,42),(3,43),(3,44),(3,45),(3,46),(3,47),(3,48),(3,49),(3,50),(3,51),(3,52),(3,53),(3,54),(3,55),(3,56),(3,57),(3,58),(3,59),(3,60),(3,61),(3,62),(3,63),(3,64),(3,65),(3,66),(3,67),(3,81),(3,83),(3,90),(3,185),(2,1),(2,82),(2,84),(2,86),(2,87),(2,92),(2,94),(2,100),(2,103),(2,110),(2,113),(2,115),(2,117),(2,119),(2,120),(2,121),(2,130)]
def tcp:Tb:=[(207,2),(106,5),(102,0),(99,3),(69,6),(57,4),(57,78),(52,8),(39,7),(36,72),(34,20),(34,69),(27,21),(19,19),(18,74),(16,71),(16,75),(14,73),(11,70),(11,97)]
def tcq:Tb:=[(150,0),(138,2),(102,25),(72,4),(60,6),(49,8),(43,74),(42,69),(41,81),(38,21),(29,7),(27,19),(27,72),(26,5),(21,82),(18,22),(17,142),(15,97),(15,153),(13,114),(13,116),(12,78),(11,110),(10,112),(10,192),(9,75),(9,140),(7,99)]
def tcr:Tb:=[(866,0),(158,1)]
class Jn where
 j:Nat
section
variable {R:Type}
abbrev E4(R:Type)(α:Type):=Nat->(α->Nat->R)->R
def uni(r:Nat):E4 R Nat:=fun n k=>Ly (Nat.mod n r) fun d=>Ly (Nat.div n r) fun n=>k d n
def walk(m:Nat)(k:Nat->Nat->R)(tb:Tb):Nat->R:=@List.rec (Nat×Nat) (fun _=>Nat->R) (fun _=>k 0 m) (fun p _ r s=>@Bool.rec (fun _=>R) (Ly (Nat.sub s p.1) r) (Ly (Nat.add (Nat.mul m p.1) s) fun n=>k p.2 n) (Nat.blt s p.1)) tb
def dg(t:Tb):E4 R Nat:=fun n k=>Ly (Nat.mod n 1024) fun s=>Ly (Nat.div n 1024) fun m=>walk m k t s
def var:E4 R Nat:=@Nat.rec (fun _=>E4 R Nat) (fun n k=>k 0 n) (fun _ r n k=>uni 64 n fun d n=>@Bool.rec (fun _=>R) (r n fun m n=>Ly (Nat.add (Nat.sub d 32) (Nat.mul 32 m)) fun x=>k x n) (k d n) (Nat.blt d 32)) 14
def Ahm{α:Type}(a:α)(m:Nat)(k:List α->R):List α->R:=@Nat.rec (fun _=>List α->R) k (fun _ r l=>r (a::l)) m
def upK{α:Type}(f:Nat->α)(a m:Nat)(k:List α->R):List α->R:=@Nat.rec (fun _=>Nat->List α->R) (fun _=>k) (fun _ r a l=>Ly (Nat.pred a) fun b=>r b (f b::l)) m (Nat.add a m)
def TV{α:Type}(t:T α):(T α->R)->R:=@T.rec α (fun _=>(T α->R)->R) (fun k=>k .nil) (fun v _ _ rl rr k=>rl fun l=>rr fun r=>@Option.rec α (fun _=>R) (k (.node none l r)) (fun a=>k (.node (some a) l r)) v) t
variable [Jn]
def num(t:Tb):E4 R Nat:=fun n k=>dg t n fun d n=>@Nat.rec (fun _=>R) (var n k) (fun d _=>@Nat.rec (fun _=>R)
 (var n fun a n=>uni 2 n fun s n=>var n fun b n=>Ly (@Nat.rec (fun _=>Nat) (Nat.add a (Nat.mul b Jn.j)) (fun _ _=>Nat.sub a (Nat.mul b Jn.j)) s) fun x=>k x n) (fun d _=>k d n) d) d
def MZ{α β:Type}(p:E4 R α)(q:E4 R β):E4 R (α×β):=fun n k=>p n fun a n=>q n fun b n=>k (a,b) n
def bool(t:Tb):E4 R Bool:=fun n k=>dg t n fun d n=>@Nat.rec (fun _=>R) (k false n) (fun _ _=>k true n) d
def int(t u:Tb):E4 R Int:=fun n k=>bool t n fun b n=>num u n fun m n=>@Bool.rec (fun _=>R) (k (.ofNat m) n) (k (.negSucc m) n) b
def times{α:Type}(p:E4 R α)(len:Nat):E4 R (List α):=@Nat.rec (fun _=>E4 R (List α)) (fun n k=>k [] n) (fun _ r n k=>p n fun a n=>r n fun l n=>k (a::l) n) len
def list{α:Type}(t:Tb)(p:E4 R α):E4 R (List α):=fun n k=>num t n fun m n=>times p m n k
def runs{α:Type}(p:E4 R α):E4 R (List α):=fun n k=>num tbp n fun m n=>(@Nat.rec (fun _=>E4 R (List α)) (fun n k=>k [] n) (fun _ r n k=>num tbo n fun c n=>p n fun a n=>r n fun l n=>Ahm a c (fun l=>k l n) l) m) n k
def ups{α:Type}(f:Nat->α)(p:E4 R α)(tn tc tb ta:Tb):E4 R (List α):=fun n k=>num tn n fun m n=>(@Nat.rec (fun _=>E4 R (List α)) (fun n k=>k [] n) (fun _ r n k=>num tc n fun c n=>bool tb n fun b n=>
 @Bool.rec (fun _=>R) (p n fun a n=>r n fun l n=>Ahm a c (fun l=>k l n) l) (num ta n fun a n=>r n fun l n=>upK f a c (fun l=>k l n) l) b) m) n k
def kind:E4 R IntKind:=fun n k=>dg tas n fun d n=>match d with | 0=>k .i8 n| 1=>k .i16 n| 2=>k .i32 n| 3=>k .i64 n| 4=>k .u8 n| 5=>k .u16 n| 6=>k .u32 n|_=>k .u64 n
def binop:E4 R BinOp:=fun n k=>dg tl n fun d n=>match d with | 0=>k .add n| 1=>k .sub n| 2=>k .mul n| 3=>k .quo n| 4=>k .rem n| 5=>k .and n| 6=>k .or n| 7=>k .xor n| 8=>k .shl n| 9=>k .shr n| 10=>k .andNot n| 11=>k .eql n| 12=>k .neq n| 13=>k .lss n| 14=>k .leq n| 15=>k .gtr n|_=>k .geq n
def Abw(t u:Tb)(r:E4 R E):E4 R E:=fun n k=>dg t n fun d n=>match d with
 | 0=>int tay tax n fun z n=>k (.lit z) n
 | 1=>num u n fun i n=>k (.var i) n
 | 2=>binop n fun o n=>kind n fun t n=>r n fun a n=>r n fun b n=>k (.bin o t a b) n
 | 3=>kind n fun t n=>r n fun a n=>k (.conv t a) n
 | 4=>num ts n fun t n=>r n fun a n=>num tr n fun c n=>k (.cell t a c) n
 |_=>num ts n fun t n=>r n fun a n=>num tr n fun c n=>k (.Bd t a c) n
def expr:E4 R E:=@Nat.rec (fun _=>E4 R E) (fun n k=>k (.lit 0) n) (fun _ r=>Abw tah tco r) 40
def exprs:E4 R (List E):=ups .var (Abw taj tcq expr) tag taf tae tad
def sr:E4 R (List Nat):=ups (fun n=>n) (num tck) tcj tci tch tcg
def sm:E4 R (List Nat):=ups (fun n=>n) (num tce) tcd tcc tcb tca
def sg:E4 R (List Nat):=ups (fun n=>n) (num tbx) tbw tbv tbu tbt
def nm:E4 R (List Nat):=ups (fun n=>n) (num Oe) tba Oe tan Oe
def nz:E4 R (List Nat):=ups (fun n=>n) (num Oe) tbc Oe tan Oe
def pk:E4 R (List Nat):=ups (fun n=>n) (num Oe) Oe Oe Oe Oe
def atom:E4 R A:=fun n k=>dg ti n fun d n=>match d with
 | 0=>bool ta n fun b n=>k (.bool b) n
 | 1=>kind n fun t n=>int tc tb n fun z n=>k (.int t z) n
 | 2=>kind n fun t n=>expr n fun e n=>k (.sym t e) n
 | 3=>num tbf n fun b n=>num tbl n fun o n=>k (.ptr b o) n
 | 4=>k .HB n
 | 5=>num tbq n fun b n=>num tcf n fun o n=>num tby n fun l n=>num tbr n fun c n=>k (.slice b o l c) n
 | 6=>num tbq n fun b n=>num tcf n fun o n=>num tby n fun l n=>num tbr n fun c n=>k (.KW b o l c) n
 | 7=>k .B7 n
 | 8=>k .emp n
 | 9=>num taz n fun b n=>k (.map b) n
 | 10=>k .Jv n
 | 11=>num Oe n fun f n=>nm n fun l n=>k (.fn f l) n
 | 12=>num Oe n fun b n=>k (.Qe b) n
 | 13=>k .KF n
 | 14=>k .any n
 | 15=>num tbq n fun b n=>num tcl n fun es n=>expr n fun e n=>k (.Wz b es e) n
 | 16=>num tbq n fun b n=>expr n fun e n=>num tcl n fun es n=>num tbr n fun c n=>k (.pt b e es c) n
 | 17=>num tbq n fun b n=>num tcl n fun es n=>expr n fun e n=>k (.C2 b es e) n
 | 18=>num tbq n fun b n=>num tcl n fun es n=>expr n fun lo n=>expr n fun e n=>k (.Wp b es lo e) n
 | 19=>expr n fun e n=>k (.sb e) n
 | 20=>num ts n fun t n=>expr n fun e n=>num tr n fun c n=>k (.rc t e c) n
 | 21=>num tbq n fun b n=>num tcl n fun es n=>expr n fun e n=>k (.P3 b es e) n
 | 22=>num tbq n fun b n=>expr n fun e n=>num tcl n fun es n=>num tbr n fun c n=>k (.NB b e es c) n
 | 23=>kind n fun t n=>num tj n fun i n=>k (.sym t (.var i)) n
 | 24=>num tak n fun t n=>k (.fp t) n
 |_=>k .any n
def atoms:E4 R (List A):=fun n k=>num th n fun m n=>(@Nat.rec (fun _=>E4 R (List A)) (fun n k=>k [] n) (fun _ r n k=>num tg n fun c n=>bool tf n fun b n=>
 @Bool.rec (fun _=>R) (atom n fun a n=>r n fun l n=>Ahm a c (fun l=>k l n) l) (kind n fun t n=>num te n fun a n=>r n fun l n=>upK (fun i=>A.sym t (.var i)) a c (fun l=>k l n) l) b) m) n k
def Ak3:E4 R V:=fun n k=>bool tcr n fun b n=>@Bool.rec (fun _=>R) (atom n fun a n=>k (.one a) n) (atoms n fun l n=>k (.agg l) n) b
def AhV:E4 R AV:=fun n k=>dg tk n fun d n=>match d with | 0=>atom n fun a n=>k (.one a) n| 1=>atoms n fun l n=>k (.agg l) n|_=>list Oe Ak3 n fun l n=>k (.Dh l) n
def opt{α:Type}(t:Tb)(p:E4 R α):E4 R (Option α):=fun n k=>bool t n fun b n=>@Bool.rec (fun _=>R) (k none n) (p n fun a n=>k (some a) n) b
def lg:E4 R Lg:=list tav (MZ expr (MZ (num taw) atom))
def kq:E4 R Kq:=list tau (MZ expr (opt tat Ak3))
def AnA:E4 R LoopState:=fun n k=>dg tan n fun d n=>match d with | 0=>k .ready n| 1=>k .busy n| 2=>k .done n|_=>k .exhausted n
def jp:E4 R (Option Jp):=fun n k=>dg tan n fun d n=>match d with | 0=>k none n| 1=>k (some .ret) n|_=>num Oe n fun i n=>k (some (.exit i)) n
def AlL:E4 R (List (Nat×AV)):=list Oe (MZ (num tbz) AhV)
def AE(fu:FuT):E4 R Aj:=fun n k=>dg tm n fun d n=>match d with
 | 0=>atoms n fun l n=>bool tal n fun f n=>opt tbs (num Oe) n fun s n=>TV (T.ofList l) fun t=>Ly l.length fun m=>k (.cells t m f s) n
 | 1=>num tbn n fun t n=>num tcl n fun es n=>expr n fun e n=>lg n fun sp n=>k (.row t es e sp) n
 | 2=>num tbn n fun t n=>kq n fun kn n=>k (.Ej t kn) n
 | 3=>AnA n fun st n=>jp n fun p n=>num Oe n fun fn n=>AlL n fun l n=>nm n fun ps n=>num Oe n fun i n=>num Oe n fun df n=>TV (Hn l) fun t=>k (.loop ⟨st,p,fn,t,ps,match fu fn with |some fi=>rfA fi i|none=>.skip,match fu fn with |some fi=>rfB fi i|none=>.skip,df⟩) n
 | 4=>bool tan n fun b n=>k (.defs b) n
 | 5=>list Oe (MZ Ak3 (MZ Ak3 (num Oe))) n fun l n=>num Oe n fun c n=>k (.map (l.map fun p=>⟨p.1,p.2.1,p.2.2⟩) c) n
 | 6=>k .dead n
 |_=>num tp n fun t n=>num tq n fun u n=>k (.Am (t,u)) n
def AiE(fu:FuT):E4 R (List (Nat×Aj)):=list tn (MZ (num to) (AE fu))
def ck:E4 R Ck:=fun n k=>dg tx n fun d n=>match d with | 0=>kind n fun t n=>k (.i t) n| 1=>k .b n| 2=>k .n n| 3=>k .u n| 4=>k .s n| 5=>k .p n|_=>num Oe n fun t n=>k (.g t) n
def kcs:E4 R (List KC):=list taq (MZ (num tar) (runs ck))
def AkK:E4 R CF:=fun n k=>binop n fun o n=>bool tv n fun r n=>Abw tai tcp expr n fun x n=>Abw tai tcp expr n fun y n=>k ⟨o,x,y,r⟩ n
def ZJ:E4 R (List CF):=list tt AkK
def ct:E4 R Ct:=list ty (MZ (num tz) (int tab taa))
def pg:E4 R Int:=int tbj tbi
def pf:E4 R Pf:=fun n k=>dg tbg n fun d n=>match d with
 | 0=>k {} n
 | 1=>ct n fun l n=>pg n fun g n=>k ⟨l,g,[],1⟩ n
 |_=>ct n fun l n=>pg n fun g n=>ct n fun l2 n=>pg n fun g2 n=>k ⟨l,g,l2,g2⟩ n
def pfs:E4 R (List Pf):=list tbh pf
def ph:E4 R Nat:=num Oe
def tree:E4 R Tr:=@Nat.rec (fun _=>E4 R Tr) (fun n k=>k .nil n) (fun _ r n k=>dg tcm n fun d n=>match d with
 | 0=>k .nil n
 | 1=>r n fun x n=>r n fun y n=>k (.cons x y) n
 | 2=>binop n fun o n=>expr n fun a n=>expr n fun b n=>r n fun x n=>r n fun y n=>k (.test o a b x y) n
 | 3=>num ts n fun t n=>expr n fun e n=>num tr n fun c n=>r n fun x n=>r n fun y n=>k (.Zk t e c x y) n
 | 4=>AkK n fun f n=>pf n fun p n=>r n fun x n=>k (.fact f p x) n
 | 5=>expr n fun a n=>expr n fun b n=>pf n fun p n=>r n fun x n=>k (.sum a b p x) n
 | 6=>expr n fun a n=>expr n fun b n=>pf n fun p n=>r n fun x n=>k (.dif a b p x) n
 | 7=>ct n fun l n=>k (.absurd l) n
 | 8=>num tcn n fun t n=>lg n fun sp n=>lg n fun kp n=>r n fun x n=>k (.AeA t sp kp x) n
 | 9=>num tcn n fun t n=>kq n fun kn n=>r n fun x n=>k (.AeB t kn x) n
 | 10=>num tcn n fun t n=>expr n fun e n=>num tcn n fun t2 n=>expr n fun lo n=>expr n fun m n=>r n fun x n=>k (.AeX t e t2 lo m x) n
 | 11=>num tcn n fun t n=>expr n fun e n=>r n fun x n=>r n fun y n=>k (.has t e x y) n
 | 12=>num tw n fun i n=>exprs n fun se n=>sr n fun sr n=>sm n fun sm n=>sg n fun sg n=>pfs n fun ps n=>r n fun x n=>k (.call i se sr sm sg ps x) n
 | 13=>num tw n fun i n=>exprs n fun se n=>sr n fun sr n=>sm n fun sm n=>sg n fun sg n=>list tbk (MZ ph (MZ ph ph)) n fun pa n=>list tbk (MZ ph (MZ ph (MZ ph ph))) n fun pc n=>pfs n fun ps n=>r n fun x n=>k (.loop i se sr sm sg pa pc ps x) n
 | 14=>pk n fun l n=>r n fun x n=>k (.pick l x) n
 | 15=>num tac n fun i n=>exprs n fun se n=>sr n fun sr n=>sm n fun sm n=>sg n fun sg n=>pfs n fun ps n=>k (.done i se sr sm sg ps) n
 | 16=>exprs n fun se n=>sr n fun sr n=>sm n fun sm n=>sg n fun sg n=>pfs n fun ps n=>pf n fun p1 n=>pf n fun p2 n=>k (.way se sr sm sg ps p1 p2) n
 | 17=>num Oe n fun i n=>bool tan n fun b n=>pf n fun p n=>r n fun x n=>k (.ne i b p x) n
 | 18=>num Oe n fun i n=>num Oe n fun j n=>k (.Afb i j) n
 | 20=>num tcn n fun t n=>expr n fun e n=>r n fun x n=>k (.key t e x) n
 | 22=>runs ck n fun ks n=>r n fun x n=>k (.newRow ks x) n
 | 21=>num tbm n fun i n=>exprs n fun se n=>sr n fun sr n=>sm n fun sm n=>pfs n fun ps n=>r n fun x n=>k (.Aot i se sr sm ps x) n
 |_=>k .stop n) 400
def AdM(fu:FuT):E4 R WM:=fun n k=>AhV n fun v n=>AiE fu n fun bl n=>num tbe n fun m n=>ZJ n fun cf n=>kcs n fun rd n=>kcs n fun mp n=>k ⟨v,bl,m,cf,rd,mp⟩ n
def Atl(fu:FuT):E4 R Bj:=fun n k=>num tu n fun f n=>list td AhV n fun args n=>AiE fu n fun bl n=>num tbe n fun m n=>num tbb n fun np n=>num tao n fun hi n=>ZJ n fun cf n=>kcs n fun rd n=>kcs n fun mp n=>nz n fun nz n=>list tbd (AdM fu) n fun os n=>k ⟨f,args,bl,m,np,hi,cf,rd,mp,nz,os⟩ n
def lpD(fu:FuT):E4 R LpD:=fun n k=>num tu n fun f n=>num Oe n fun no n=>AlL n fun L n=>AiE fu n fun bl n=>num tbe n fun m n=>nm n fun mv n=>num tbb n fun nc n=>num tao n fun nh n=>ZJ n fun cf n=>kcs n fun rd n=>kcs n fun mp n=>expr n fun ma n=>expr n fun mb n=>k ⟨f,no,L,bl,m,mv,nc,nh,cf,rd,mp,ma,mb⟩ n
def item(fu:FuT):E4 R Item:=fun n k=>bool tap n fun b n=>@Bool.rec (fun _=>R) (Atl fu n fun c n=>tree n fun t n=>k (.Bo c t) n) (lpD fu n fun d n=>tree n fun t n=>k (.lp d t) n) b
end
variable {R:Type}
instance:Jn:=⟨0⟩
def Anv(fu:FuT)(l:List Nat):(List Item->R)->R:=@List.rec Nat (fun _=>(List Item->R)->R) (fun k=>k []) (fun n _ r k=>item fu n fun i _=>r fun l=>k (i::l)) l
@[irreducible] def items (fu:FuT) (l:List Nat):List Item:=Anv fu l fun l=>l
def Ajx(fu:FuT)(n:Nat)(l:List Nat):(List Item->R)->R:=@List.rec Nat (fun _=>(List Item->R)->R) (fun k=>k []) (fun j _ r k=>@item R ⟨j⟩ fu n fun i _=>r fun l=>k (i::l)) l
@[irreducible] def Eh (fu:FuT) (n:Nat) (l:List Nat):List Item:=Ajx fu n l fun l=>l
end Eng.Dc
namespace Eng
open Go Go.RowKit
variable {P:Program} {C C':AB} {U U' Y:An} {J J':A1} {W:Wd}
def CM:Value->Option Nat
 |.pointer (some a)=>some a.block
 |.slice (some a) _ _=>some a.block
 |.map (some x)=>some x
 |_=>none
def cellAt(w:World)(r c:Nat):Option Value:=match w.heap[r]? with |some (.cells cs _ _)=>cs[c]? |_=>none
def FY(w:World)(r:Nat):Nat:=match w.heap[r]? with |some (.cells cs _ _)=>cs.size|_=>0
abbrev MJ:=List (Option (Nat×Nat))
def DA(ps:MJ)(w:World)(ro:Nat):Nat->Nat->Option Nat
 |_,0=>some ro
 | 0,_+1=>none
 |f+1,b+1=>match ps[b]? with
  |some (some p)=>(DA ps w ro f p.1).bind fun r=>(cellAt w r p.2).bind CM
  |_=>none
def Fj(ps:MJ)(w:World)(ro:Nat):A1:=fun b=>(DA ps w ro 32 b).map fun r=>(r,FY w r)
theorem DY{ps:MJ}{w:World}{ro f:Nat}:DA ps w ro f 0=some ro:=by cases f<;>rfl
theorem AdV{ps:MJ}{w:World}{ro:Nat}:∀{f b r:Nat},DA ps w ro f b=some r->DA ps w ro (f+1) b=some r:=by
 intro f
 induction f with
 |zero=>
  intro b r h;cases b with
  |zero=>rw[DY]at h ⊢;exact h
  |succ b=>cases h
 |succ f ih=>
  intro b r h;cases b with
  |zero=>rw[DY]at h ⊢;exact h
  |succ b=>
   unfold DA at h ⊢;cases hp:ps[b]? with
   |none=>rw[hp]at h;cases h
   |some q=>
    cases q with
    |none=>rw[hp]at h;cases h
    |some q=>
     rw[hp]at h;simp only at h ⊢;cases hr:DA ps w ro f q.1 with
     |none=>rw[hr]at h;cases h
     |some rp=>rw[hr]at h;rw[ih hr];exact h
theorem Ake{ps:MJ}{w:World}{ro f g b r:Nat}(hle:f<=g)(h:DA ps w ro f b=some r):DA ps w ro g b=some r:=by
 induction hle with
 |refl=>exact h
 |step _ ih=>exact AdV ih
theorem Fa{w w':World}{r c:Nat}(h:w'.heap[r]? =w.heap[r]?):cellAt w' r c=cellAt w r c:=by unfold cellAt;rw[h]
theorem SW{w w':World}{r:Nat}(h:w'.heap[r]? =w.heap[r]?):FY w' r=FY w r:=by unfold FY;rw[h]
theorem YK{ps:MJ}{w w':World}{ro:Nat}(h:∀b r,DA ps w ro 32 b=some r->w'.heap[r]? =w.heap[r]?):∀{f:Nat},f<=32->∀b,DA ps w' ro f b=DA ps w ro f b:=by
 intro f
 induction f with
 |zero=>intro _ b;cases b<;>rfl
 |succ f ih=>
  intro hf b;cases b with
  |zero=>rw[DY,DY]
  |succ b=>
   unfold DA;cases hp:ps[b]? with
   |none=>rfl
   |some q=>
    cases q with
    |none=>rfl
    |some q=>
     simp only;rw[ih (by omega)];cases hr:DA ps w ro f q.1 with
     |none=>rfl
     |some rp=>
      show (cellAt w' rp q.2).bind CM=(cellAt w rp q.2).bind CM;rw[Fa (h q.1 rp (Ake (by omega) hr))]
theorem EN{ps:MJ}{w:World}{ro b r z:Nat}(h:Fj ps w ro b=some (r,z)):DA ps w ro 32 b=some r/\z=FY w r:=by
 unfold Fj at h;cases hr:DA ps w ro 32 b with
 |none=>rw[hr]at h;cases h
 |some x=>rw[hr]at h;cases h;exact⟨rfl,rfl⟩
theorem Ij{ps:MJ}{w:World}{ro b r:Nat}(h:DA ps w ro 32 b=some r):Fj ps w ro b=some (r,FY w r):=by unfold Fj;rw[h];rfl
structure Shape where
 bl:List (Nat×Aj)
 n:Nat
 ps:MJ
def CS(W:Wd):AB:={ty:=W.ty,fu:=W.fu,cmp:=fun _ _ _=>none,ext:=fun _ _ _=>none}
def Shape.fp(D:Shape)(Y:An)(ro:Nat)(w:World)(r:Nat):Prop:=(∃b,DA D.ps w ro 32 b=some r)\/Fo Y (Aa D.bl D.n) w r\/∃o,Y.k r=some o
def Shape.rep(W:Wd)(D:Shape)(Y:An)(ro:Nat)(w:World):Prop:=Rel (Fj D.ps w ro) Y (CS W) (Aa D.bl D.n) w
theorem Shape.lt{D:Shape}{ro:Nat}{w:World}{r:Nat}(hr:D.rep W Y ro w)(h:D.fp Y ro w r):r<w.heap.size:=by
 rcases h with ⟨b,h⟩|h|⟨o,h⟩
 ·obtain⟨o,ho,_⟩:=hr.AE b r _ (Ij h);exact (Ht.1 ho).1
 ·exact hr.Am.lt h
 ·have:=(hr.kept r o h).1;exact (Ht.1 this).1
theorem Shape.loc{D:Shape}{ro:Nat}{w w':World}(hr:D.rep W Y ro w)(h:∀r,D.fp Y ro w r->w'.heap[r]? =w.heap[r]?):D.rep W Y ro w'/\∀r,D.fp Y ro w' r↔D.fp Y ro w r:=by
 have h1:∀b,DA D.ps w' ro 32 b=DA D.ps w ro 32 b:=YK (fun b r hb=>h r (.inl ⟨b,hb⟩)) (Nat.le_refl _)
 have h2:Fj D.ps w' ro=Fj D.ps w ro:=by
  funext b
  unfold Fj;rw[h1];cases hb:DA D.ps w ro 32 b with
  |none=>rfl
  |some r=>show some (r,FY w' r)=some (r,FY w r);rw[SW (h r (.inl ⟨b,hb⟩))]
 have ES:=hr.Am.step (J':=Fj D.ps w ro) (h':=Aa D.bl D.n) (w':=w') (fun _ _ hg=>hg) (fun r hf=>h r (.inr (.inl hf))) fun b r S hb=>.inl ⟨b,S,hb⟩
 refine⟨?_,fun r=>?_⟩
 ·show Rel (Fj D.ps w' ro) Y (CS W) (Aa D.bl D.n) w';rw[h2];refine⟨hr.lt,fun b r S hb=>?_,hr.inj,fun r o hk=>⟨(h r (.inr (.inr ⟨o,hk⟩))).trans (hr.kept r o hk).1,(hr.kept r o hk).2⟩,ES.1⟩;obtain⟨o,ho,hx⟩:=hr.AE b r S hb;exact⟨o,(h r (.inl ⟨b,(EN hb).1⟩)).trans ho,hx⟩
 ·unfold Shape.fp;have h3:Fo Y (Aa D.bl D.n) w' r↔Fo Y (Aa D.bl D.n) w r:=by
   constructor
   ·rintro ⟨b,t,g1,g2⟩
    exact⟨b,t,g1,(((Y.B t).loc w w' (hr.Am.rep b t g1) fun r hf=>h r (.inr (.inl ⟨b,t,g1,hf⟩))).2 r).1 g2⟩
   ·rintro ⟨b,t,g1,g2⟩
    exact⟨b,t,g1,(((Y.B t).loc w w' (hr.Am.rep b t g1) fun r hf=>h r (.inr (.inl ⟨b,t,g1,hf⟩))).2 r).2 g2⟩
  rw[h3];simp only[h1]
def Shape.Ov(W:Wd)(D:Shape)(Y:An)(ro:Nat):Zv:=⟨D.rep W Y ro,D.fp Y ro,fun _ _ hr h=>Shape.lt hr h,fun _ _ hr h=>Shape.loc hr h⟩
def Shape.Am(W:Wd)(D:Shape)(Y:An):CH:=.mk (fun ro=>D.Ov W Y ro) Y.v Y.r Y.m Y.b
def Shape.LS(D:Shape):Nat->Nat->Bool
 |_,0=>true
 | 0,_+1=>false
 |f+1,b+1=>match D.ps[b]? with
  |some (some p)=>D.LS f p.1&&(match (Aa D.bl D.n).get p.1 with
   |some (.cells c m _ none)=>Nat.blt p.2 m&&(match T.get c p.2 with |some (.ptr x _)=>Nat.beq x (b+1)|some (.map x)=>Nat.beq x (b+1)|_=>false)
   |_=>false)
  |_=>false
def AfW(x:Option Aj):Bool:=match x with |some (.row ..)=>true|_=>false
def Shape.soft(D:Shape)(b:Nat):Bool:=match b with
 | 0=>false
 |b+1=>match D.ps[b]? with
  |some (some p)=>D.LS 31 p.1&&(AfW ((Aa D.bl D.n).get (b+1))&&(match (Aa D.bl D.n).get p.1 with
   |some (.cells c m _ none)=>Nat.blt p.2 m&&(match T.get c p.2 with |some (.C2 x _ _)=>Nat.beq x (b+1)|_=>false)
   |_=>false))
  |_=>false
def Shape.own(D:Shape)(p c b:Nat):Bool:=match b with
 | 0=>false
 |b+1=>match D.ps[b]? with |some (some q)=>Nat.beq q.1 p&&Nat.beq q.2 c|_=>false
def Shape.atom(D:Shape)(p c:Nat)(a:A):Bool:=match a with
 |.bool _|.int _ _|.sym _ _|.str _|.HB|.B7|.Jv|.KF|.sb _|.rc _ _ _|.fp _|.any|.emp=>true
 |.ptr b _=>D.LS 32 b
 |.map b=>D.LS 32 b
 |.C2 b _ _=>D.soft b&&D.own p c b
 |_=>false
def Shape.block(D:Shape)(p:Nat×Aj):Bool:=match p.2 with
 |.cells c m _ none=>(List.range m).all fun i=>match T.get c i with |some a=>D.atom p.1 i a|none=>true
 |.row _ _ _ sp=>sp.isEmpty
 |.Ej _ kn=>kn.isEmpty
 |.Am _=>true
 |.dead=>true
 |_=>false
def Shape.Du(D:Shape):Bool:=(D.bl.all D.block&&(List.range D.ps.length).all fun b=>match D.ps[b]? with |some (some _)=>D.LS 32 (b+1)||D.soft (b+1)|_=>true)
section
variable {D:Shape} {ro S0:Nat} {w:World}
theorem OU(hr:Rel J U C (Aa D.bl D.n) w){p m i r S:Nat}{t:T A}{f:Bool}(hg:(Aa D.bl D.n).get p=some (.cells t m f none))(hb:J p=some (r,S)){a:A}(hi:i<m)(ha:T.get t i=some a):∃v,cellAt w r i=some v/\AR J U a v:=by
 obtain⟨o,ho,hx⟩:=hr.AE p r S hb;obtain⟨cs,e,h1,h2,h3,h4,h5⟩:=hx _ hg;obtain⟨v,hv,Gy⟩:=h5 i a hi ha;refine⟨v,?_,Gy⟩;unfold cellAt;rw[ho,h1];exact hv
theorem Lm(hr:Rel J U C (Aa D.bl D.n) w)(h0:J 0=some (ro,S0)):∀{f b:Nat},D.LS f b=true->∃r S,DA D.ps w ro f b=some r/\J b=some (r,S):=by
 intro f
 induction f with
 |zero=>intro b h;cases b with |zero=>exact⟨ro,S0,rfl,h0⟩|succ b=>cases h
 |succ f ih=>
  intro b h;cases b with
  |zero=>exact⟨ro,S0,rfl,h0⟩
  |succ b=>
   unfold Shape.LS at h;unfold DA;cases hp:D.ps[b]? with
   |none=>rw[hp]at h;cases h
   |some q=>
    cases q with
    |none=>rw[hp]at h;cases h
    |some q=>
     rw[hp]at h;simp only[Ah]at h;obtain⟨rp,Sp,g1,g2⟩:=ih h.1;simp only;rw[g1];have h2:=h.2;split at h2
     ·rename_i c m f' hg;simp only[Ah]at h2;have Au:=AF h2.1;have h3:=h2.2;split at h3
      ·rename_i x off ha;obtain⟨v,k1,k2⟩:=OU hr hg g2 Au ha;obtain⟨r,S,k3,k4⟩:=k2;rw[beq_eq h3]at k3;refine⟨r,S,?_,k3⟩;show (cellAt w rp q.2).bind CM=some r;rw[k1,k4];rfl
      ·rename_i x ha;obtain⟨v,k1,k2⟩:=OU hr hg g2 Au ha;obtain⟨r,S,k3,k4⟩:=k2;rw[beq_eq h3]at k3;refine⟨r,S,?_,k3⟩;show (cellAt w rp q.2).bind CM=some r;rw[k1,k4];rfl
      ·cases h3
     ·cases h2
theorem Zf(hr:Rel J U C (Aa D.bl D.n) w)(h0:J 0=some (ro,S0)){b:Nat}(h:D.soft b=true):∃p c rp Sp v es e,D.own p c b=true/\J p=some (rp,Sp)/\cellAt w rp c=some v/\AR J U (.C2 b es e) v/\DA D.ps w ro 32 b=CM v/\AfW ((Aa D.bl D.n).get b)=true:=by
 cases b with
 |zero=>cases h
 |succ b=>
  unfold Shape.soft at h;cases hp:D.ps[b]? with
  |none=>simp only[hp]at h;cases h
  |some q=>
   cases q with
   |none=>simp only[hp]at h;cases h
   |some q=>
    simp only[hp,Ah]at h;obtain⟨g0,gr,h2⟩:=h;obtain⟨rp,Sp,g1,g2⟩:=Lm hr h0 g0;split at h2
    ·rename_i c m f' hg;simp only[Ah]at h2;have Au:=AF h2.1;have h3:=h2.2;split at h3
     ·rename_i x es e ha;obtain⟨v,k1,k2⟩:=OU hr hg g2 Au ha;have e1:=beq_eq h3;subst e1;refine⟨q.1,q.2,rp,Sp,v,es,e,?_,g2,k1,k2,?_,gr⟩
      ·unfold Shape.own;simp only[hp];rw[Ah];exact⟨Nat.beq_refl _,Nat.beq_refl _⟩
      ·show DA D.ps w ro (31+1) (b+1)=_;unfold DA;simp only[hp];rw[g1];show (cellAt w rp q.2).bind CM=_;rw[k1];rfl
     ·cases h3
    ·cases h2
theorem Ady(hD:D.Du=true){b:Nat}{q:Nat×Nat}(hp:D.ps[b]? =some (some q)):D.LS 32 (b+1)=true\/D.soft (b+1)=true:=by
 unfold Shape.Du at hD;rw[Ah]at hD;have:=Bf.1 hD.2 b (List.mem_range.2 (Oq.1 hp).1);rw[hp]at this;exact Bool.or_eq_true _ _▸this
theorem NR(hD:D.Du=true)(hr:Rel J U C (Aa D.bl D.n) w)(h0:J 0=some (ro,S0)){b r:Nat}(h:DA D.ps w ro 32 b=some r):∃S,J b=some (r,S):=by
 cases b with
 |zero=>rw[DY]at h;cases h;exact⟨S0,h0⟩
 |succ b=>
  cases hp:D.ps[b]? with
  |none=>
   have h:DA D.ps w ro (31+1) (b+1)=some r:=h;unfold DA at h;rw[hp]at h;cases h
  |some q=>
   cases q with
   |none=>
    have h:DA D.ps w ro (31+1) (b+1)=some r:=h;unfold DA at h;rw[hp]at h;cases h
   |some q=>
    rcases Ady hD hp with hs|hs
    ·obtain⟨r',S,g1,g2⟩:=Lm hr h0 hs;rw[h]at g1;cases g1;exact⟨S,g2⟩
    ·obtain⟨p,c,rp,Sp,v,es,e,_,_,_,g4,g5,_⟩:=Zf hr h0 hs;rw[h]at g5;obtain⟨q',N,k,k1,k2,k3⟩:=g4;rcases k3 with ⟨k3,_⟩|⟨r',S,k3,k4,_⟩
     ·subst k3;rw[k1]at g5;cases g5
     ·subst k4;rw[k1]at g5;cases g5;exact⟨S,k3⟩
theorem AcU(hr:Rel J U C (Aa D.bl D.n) w)(h0:J 0=some (ro,S0)){p c rp Sp:Nat}{a:A}{v:Value}(ha:D.atom p c a=true)(hp:J p=some (rp,Sp))(hv:cellAt w rp c=some v)(h:AR J U a v):AR (Fj D.ps w ro) U a v:=by
 cases a with
 |ptr b off=>
  obtain⟨r,S,h1,h2⟩:=h;obtain⟨r',S',g1,g2⟩:=Lm hr h0 (show D.LS 32 b=true from ha);rw[h1]at g2;cases g2;exact⟨r,_,Ij g1,h2⟩
 |map b=>
  obtain⟨r,S,h1,h2⟩:=h;obtain⟨r',S',g1,g2⟩:=Lm hr h0 (show D.LS 32 b=true from ha);rw[h1]at g2;cases g2;exact⟨r,_,Ij g1,h2⟩
 |C2 b es e=>
  have ha:(D.soft b&&D.own p c b)=true:=ha;rw[Ah]at ha;obtain⟨p',c',rp',Sp',v',JP,e',g1,g2,g3,g4,g5,g6⟩:=Zf hr h0 ha.1;have e1:p'=p/\c'=c:=by
   have o1:=ha.2;unfold Shape.own at o1 g1;cases b with
   |zero=>cases g1
   |succ b=>
    simp only at o1 g1;cases hq:D.ps[b]? with
    |none=>rw[hq]at g1;cases g1
    |some q=>
     cases q with
     |none=>rw[hq]at g1;cases g1
     |some q=>
      rw[hq]at g1 o1;simp only[Ah]at g1 o1;exact⟨(beq_eq g1.1).symm.trans (beq_eq o1.1),(beq_eq g1.2).symm.trans (beq_eq o1.2)⟩
  obtain⟨e1,e2⟩:=e1;subst e1;subst e2;rw[hp]at g2;cases g2;rw[hv]at g3;cases g3;obtain⟨q,N,k,k1,k2,k3⟩:=h;refine⟨q,N,k,k1,k2,?_⟩;rcases k3 with k3|⟨r,S,k3,k4,k5,k6⟩
  ·exact .inl k3
  ·refine .inr ⟨r,FY w r,?_,k4,?_,k6⟩
   ·refine Ij ?_;rw[g5,k1,k4];rfl
   ·obtain⟨o,ho,hx⟩:=hr.AE b r S k3;unfold AfW at g6;split at g6
    ·rename_i hgx;obtain⟨cs,ty,N',q1,q2,_⟩:=hx _ hgx;unfold FY;rw[ho,q1];show k*es=cs.size;rw[q2];exact k5
    ·cases g6
 |_=>first|exact h|(cases ha;done)
theorem Rel.root(hD:D.Du=true)(hr:Rel J U C (Aa D.bl D.n) w)(h0:J 0=some (ro,S0)):Rel (Fj D.ps w ro) U C (Aa D.bl D.n) w:=by
 have DU:∀b r z,Fj D.ps w ro b=some (r,z)->(∃S,J b=some (r,S))/\z=FY w r:=fun b r z hb=>⟨NR hD hr h0 (EN hb).1,(EN hb).2⟩
 refine⟨fun b r z hb=>?_,fun b r z hb=>?_,fun b b' r z z' hb AS=>?_,fun r o hk=>⟨(hr.kept r o hk).1,fun b z hb=>?_⟩,?_⟩
 ·obtain⟨⟨S,g⟩,_⟩:=DU b r z hb;exact hr.lt b r S g
 ·obtain⟨⟨S,g⟩,hz⟩:=DU b r z hb;obtain⟨o,ho,hx⟩:=hr.AE b r S g;refine⟨o,ho,fun x hg=>?_⟩;have hx:=hx x hg;have hbk:D.block (b,x)=true:=by
   unfold Shape.Du at hD;rw[Ah]at hD;exact Bf.1 hD.1 _ (Ad hg)
  cases x with
  |cells c m f s=>
   cases s with
   |some _=>cases hbk
   |none=>
    obtain⟨cs,e,h1,h2,h3,h4,h5⟩:=hx;have L5:z=S:=by rw[hz];unfold FY;rw[ho,h1];exact h2
    refine⟨cs,e,h1,h2.trans L5.symm,by omega,fun hf=>(h4 hf).trans L5.symm,fun i a hi ha=>?_⟩;obtain⟨v,hv,Gy⟩:=h5 i a hi ha;have hat:D.atom b i a=true:=by
     have:=Bf.1 (show ((List.range m).all fun i=>match T.get c i with |some a=>D.atom b i a|none=>true)=true from hbk) i (List.mem_range.2 hi);rw[ha]at this;exact this
    exact⟨v,hv,AcU hr h0 hat g (by unfold cellAt;rw[ho,h1];exact hv) Gy⟩
  |row t es n sp=>
   obtain⟨cs,ty,N,h1,h2,h3,h4,h5,h6,h7⟩:=hx;have L5:z=S:=by rw[hz];unfold FY;rw[ho,h1];exact h2
   have Ol:sp=[]:=List.isEmpty_iff.1 (show sp.isEmpty=true from hbk);subst Ol;exact⟨cs,ty,N,h1,h2.trans L5.symm,h3,by omega,h5,h6,h7⟩
  |Ej t kn=>
   have hkn:kn=[]:=List.isEmpty_iff.1 (show kn.isEmpty=true from hbk);subst hkn;exact hx
  |dead=>trivial
  |Am t=>exact hx
  |_=>cases hbk
 ·obtain⟨⟨S,g⟩,_⟩:=DU b r z hb;obtain⟨⟨S',g'⟩,_⟩:=DU b' r z' AS;exact hr.inj b b' r S S' g g'
 ·obtain⟨⟨S,g⟩,_⟩:=DU b r z hb;exact (hr.kept r o hk).2 b S g
 ·exact (hr.Am.step (J':=Fj D.ps w ro) (h':=Aa D.bl D.n) (w':=w) (fun _ _ hg=>hg) (fun _ _=>rfl) fun b r z hb=>by
   obtain⟨⟨S,g⟩,_⟩:=DU b r z hb;exact .inl ⟨b,S,g⟩).1
end
end Eng
namespace Eng
open Go Go.RowKit
variable [AD]
variable {P:Program} {C C':AB} {U U' Y:An} {J J':A1} {W:Wd} {n:Nat}
def An.core(U Y:An):An:={U with k:=Y.k,b:=Y.b,ro:=Y.ro}
theorem E.core:∀e:E,e.den (U.core Y)=e.den U
 |.lit _=>rfl
 |.var _=>rfl
 |.bin o k a b=>by
  show E5 o k (a.den (U.core Y)) (b.den (U.core Y))=E5 o k (a.den U) (b.den U);rw[E.core a,E.core b]
 |.conv k a=>by
  show k.wrap (a.den (U.core Y))=k.wrap (a.den U);rw[E.core a]
 |.cell t a c=>by
  show numOf (U.r t (a.den (U.core Y)).toNat c)=numOf (U.r t (a.den U).toNat c);rw[E.core a]
 |.Bd t a c=>by
  show Dm (U.m t (a.den (U.core Y))) c=Dm (U.m t (a.den U)) c;rw[E.core a]
def A.P7(a:A):Bool:=match a with |.P3 _ _ _=>false|.NB _ _ _ _=>false|.fp _=>false|_=>true
theorem AR.core{a:A}{v:Value}(hn:a.P7=true)(h:AR J (U.core Y) a v):AR J U a v:=by
 cases a with
 |sym k e=>exact (show v=.int k (e.den (U.core Y)) from h).trans (by rw[E.core])
 |sb e=>exact (show v=.bool (decide (e.den (U.core Y) ≠ 0)) from h).trans (by rw[E.core])
 |Wz b es e=>obtain⟨r,S,N,h1,h2,h3,h4⟩:=h;exact⟨r,S,N,h1,h2,h3.trans (E.core e),h4⟩
 |pt b e es c=>obtain⟨r,S,N,h1,h2,h3⟩:=h;exact⟨r,S,N,h1,h2,h3.trans (E.core e)⟩
 |C2 b es e=>obtain⟨p,N,k,h1,h2,h3⟩:=h;exact⟨p,N,k,h1,h2.trans (E.core e),h3⟩
 |Wp b es lw e=>
  obtain⟨p,N,k,h1,h0,h2,h3⟩:=h;refine⟨p,N,k,h1,h0,h2.trans (E.core e),?_⟩;rcases h3 with h3|⟨r,S,L,h4,h5,h6⟩
  ·exact .inl h3
  ·exact .inr ⟨r,S,L,h4,h5,h6.trans (E.core lw)⟩
 |rc t e c=>exact⟨h.1.trans (by show U.r t (e.den (U.core Y)).toNat c=_;rw[E.core]),h.2⟩
 |P3 t es e=>cases hn
 |NB t e es c=>cases hn
 |fp t=>cases hn
 |_=>exact h
theorem F2.core{l:List A}{vs:List Value}(hn:l.all A.P7=true)(h:F2 (AR J (U.core Y)) l vs):F2 (AR J U) l vs:=by
 induction h with
 |nil=>exact .nil
 |cons h0 _ ih=>simp only[List.all_cons,Ah]at hn;exact .cons (h0.core hn.1) (ih hn.2)
def V.P7(x:V):Bool:=match x with |.one a=>a.P7|.agg l=>l.all A.P7
theorem VR.core{x:V}{v:Value}(hn:x.P7=true)(h:VR J (U.core Y) x v):VR J U x v:=by
 cases x with
 |one a=>exact AR.core hn h
 |agg l=>obtain⟨vs,h1,h2⟩:=h;exact⟨vs,h1,h2.core hn⟩
def AV.P7(x:AV):Bool:=match x with |.one a=>a.P7|.agg l=>l.all A.P7|.Dh l=>l.all V.P7
theorem Bb.core{x:AV}{v:Value}(hn:x.P7=true)(h:Bb J (U.core Y) x v):Bb J U x v:=by
 cases x with
 |one a=>exact AR.core hn h
 |agg l=>obtain⟨vs,h1,h2⟩:=h;exact⟨vs,h1,h2.core hn⟩
 |Dh l=>
  obtain⟨vs,h1,h2⟩:=h;refine⟨vs,h1,?_⟩;clear h1;change l.all V.P7=true at hn
  induction h2 with
  |nil=>exact .nil
  |cons h0 _ ih=>simp only[List.all_cons,Ah]at hn;exact .cons (h0.core hn.1) (ih hn.2)
def Aj.P7(x:Aj):Bool:=match x with |.cells c _ _ _=>T.all A.P7 c|.row _ _ _ sp=>sp.isEmpty|.dead=>true|_=>false
theorem BR.core{x:Aj}{o:Obj}{z:Nat}(hn:x.P7=true)(h:BR J (U.core Y) C x o z):BR J U C x o z:=by
 cases x with
 |cells c m f s=>
  obtain⟨cs,e,h1,h2,h3,h4,h5⟩:=h;exact⟨cs,e,h1,h2,h3,h4,fun i a hi ha=>let ⟨v,g1,g2⟩:=h5 i a hi ha;⟨v,g1,g2.core (T.Gb hn ha)⟩⟩
 |row t es e sp=>
  have Ol:sp=[]:=List.isEmpty_iff.1 (show sp.isEmpty=true from hn);subst Ol;obtain⟨cs,ty,N,h1,h2,h3,h4,h5,h6,h7⟩:=h;exact⟨cs,ty,N,h1,h2,h3.trans (E.core e),h4,h5,(fun p hp=>by cases hp),h7⟩
 |dead=>trivial
 |_=>cases hn
abbrev Tg(n:Nat)(U U':An):Prop:=Ai n U (U'.core U)
theorem Tg.of(hv:∀i,i<n->U'.v i=U.v i)(hr:∀i,i<n->U'.r i=U.r i)(hm:∀i,i<n->U'.m i=U.m i):Tg n U U':=⟨hv,hr,hm,rfl,fun _ _=>rfl,fun _ _=>rfl⟩
def AeZ(f:CF):Bool:=match f.op with |.add=>(match f.y with |.lit (.ofNat c)=>Nat.beq (c / 10000000000) 0 |_=>false)|_=>true
theorem A2.core{f:CF}(hn:AeZ f=true)(h:A2 (U.core Y) f):A2 U f:=by
 by_cases ho:f.op=.add
 ·obtain⟨c,p,hy,hp,hq⟩:=DQ.1 ((EW ho).1 h);unfold AeZ at hn;rw[ho,hy]at hn;have hn:Nat.beq (c / 10000000000) 0=true:=hn;refine (EW ho).2 (DQ.2 ⟨c,p,hy,hp,?_⟩);have e1:p.1.map (E.den (U.core Y))=p.1.map (E.den U):=List.map_congr_left fun e _=>E.core e
  rw[e1]at hq;have e2:p.2.2.2=[]:=by
   obtain⟨_,_,_,_,_,_,_,_,_,_,_,_,_,_,_,_,h6,h7⟩:=O7 hp;rw[beq_eq hn]at h6;cases h6;exact (Option.some.inj (show some ([]:List Nat)=some p.2.2.2 from h7)).symm
  rw[e2]at hq ⊢;exact hq
 ·refine (BU ho).2 ?_;have:=(BU ho).1 h;rw[E.core,E.core]at this;exact this
theorem Tg.cf(h:Tg n U U'){f:CF}(hl:PT n f=true)(hn:AeZ f=true)(hf:A2 U f):A2 U' f:=A2.core hn (A2.agree h hl hf)
theorem Tg.av(h:Tg n U U'){x:AV}(hl:x.lo n=true)(hn:x.P7=true){v:Value}(hx:Bb J U x v):Bb J U' x v:=Bb.core hn (hx.agree h hl)
theorem Tg.br(h:Tg n U U'){x:Aj}(hl:x.lo n=true)(hn:x.P7=true){o:Obj}{z:Nat}(hx:BR J U C x o z):BR J U' C x o z:=BR.core hn (hx.agree h hl)
theorem Bb.free{x:AV}{v:Value}(hw:x.within (fun _=>false)=true)(h:Bb J U x v):Bb J' U x v:=by
 refine Bb.mono (J:=Eng.AL J fun _=>false) (fun b y hb=>?_) (Bb.AL hw h);have:=(As hb).1;cases this
structure Em where
 te:List E
 tr:List Nat
 tm:List Nat
 tg:List Nat
 v:AV
 ex:List (Nat×Aj)
 n1:Nat
 cf:List CF
 rd:List KC
 ie:List E
 ir:List Nat
 ig:List Nat
 fa:List CF:=[]
structure Ak where
 D:Shape
 nb:Nat
 cf:List CF
 rd:List KC
 mp:List KC
 kind:Nat
 np:Nat
 hi:Nat
 args:List AV
 M8:List CF
 outs:List Em
def Em.Sd(f:Em):Sb:=sbT 0 f.te f.tr f.tm f.tg
def Em.Se(f:Em)(nb np:Nat):Sb:={s:=fun i=>bif Nat.blt i np then .var (Nat.add nb i) else f.ie.getD (Nat.sub i np) (.lit 0),r:=fun t=>bif Nat.blt t np then Nat.add nb t else f.ir.getD (Nat.sub t np) 0,m:=fun t=>bif Nat.blt t np then Nat.add nb t else 0,g:=fun b=>f.ig.getD b b}
def Aed(nb:Nat):Sb:={s:=fun i=>.var (Nat.add nb i),r:=fun t=>Nat.add nb t,m:=fun t=>Nat.add nb t,g:=fun b=>b}
def Ak.inv(F:Ak)(q:An->Prop)(Y:An):Prop:=Kn F.cf F.rd q Y F.mp
def Ak.post(F:Ak)(W:Wd)(q:An->Prop)(f:Em)(o:Ds)(U:An):Prop:=
 ∃Yq0 Y,Ai F.nb Yq0 Y/\F.inv q Yq0/\U.b 0=F.D.Am W Yq0/\o.post Y/\U.b F.np=F.D.Am W (f.Sd.sig Y)/\F.inv q (f.Sd.sig Y)/\Tg F.hi ((f.Se F.nb F.np).sig Y) U
def Ak.out(F:Ak)(W:Wd)(q:An->Prop)(f:Em)(o:Ds):Ds:={v:=f.v,AX:=(0,.Am (F.np,0))::f.ex,n1:=f.n1,cf:=f.cf++f.fa,rd:=(F.np,[.g F.kind])::f.rd,q:=F.post W q f o}
def Ak.Bo(F:Ak)(W:Wd)(q:An->Prop)(c:Bq):Bq:={f:=c.f,args:=.one (.fp 0)::F.args,bl:=[(0,.Am (0,0))],n:=1,np:=F.np,hi:=F.hi,cf:=F.M8,rd:=[(0,[.g F.kind])],outs:=(F.outs.zip c.outs).map fun p=>F.out W q p.1 p.2}
def ND(h:H)(b:Nat):Bool:=match h.get b with |some .dead=>false|some _=>true|none=>false
theorem Db{h:H}{b:Nat}(hb:ND h b=true):Live h b:=by
 unfold ND at hb;split at hb
 ·cases hb
 ·rename_i x hx hg;exact⟨x,hg,fun e=>hx e⟩
 ·cases hb
def Ak.ckA(F:Ak)(f:Em)(o:Ds):Bool:=Tw f.Sd F.D.bl F.D.n (Aa o.AX o.n1)&&(Nat.beq (f.Sd.g 0) 0&&(Ae F.D.bl 0&&Ae o.AX 0))
def Ak.Xg(F:Ak)(c:Bq)(f:Em)(o:Ds)(p:Nat×Aj):Bool:=
 p.2.P7&&(p.2.lo F.hi&&(C3 (Nat.beq p.1 0)&&(Nat.ble c.n ((f.Se F.nb F.np).g p.1)&&(ND (Aa o.AX o.n1) ((f.Se F.nb F.np).g p.1)&&F.D.bl.all fun q=>ND (Aa o.AX o.n1) (f.Sd.g q.1)&&C3 (Nat.beq ((f.Se F.nb F.np).g p.1) (f.Sd.g q.1))))))
def Ak.ckB(F:Ak)(c:Bq)(f:Em)(o:Ds):Bool:=Tw (f.Se F.nb F.np) f.ex f.n1 (Aa o.AX o.n1)&&((f.ex.all (F.Xg c f o))&&(f.ex.isEmpty||F.D.bl.all fun p=>ND (Aa o.AX o.n1) p.1))
def Ak.ckC(F:Ak)(f:Em)(o:Ds):Bool:=AV.AJ (f.v.sub (f.Se F.nb F.np)) o.v&&(f.v.within (Ae f.ex)&&(f.v.P7&&f.v.lo F.hi))
def Ak.ckL(F:Ak)(f:Em):Bool:=leaves [(0,.Am (0,0))] 1 ((0,.Am (F.np,0))::f.ex) f.n1 (Aa ((0,.Am (F.np,0))::f.ex) f.n1)&&(f.v.within (Ae ((0,.Am (F.np,0))::f.ex))&&Nat.blt F.np F.hi)
def Ak.ckF(F:Ak)(f:Em)(o:Ds):Bool:=(f.cf.all fun g=>((PT F.hi g&&AeZ g)&&Xe g)&&o.cf.any (Ep (EG (f.Se F.nb F.np) g)))&&f.rd.all fun k=>Nat.blt k.1 F.hi&&(WA k.2&&o.rd.any (EK ((f.Se F.nb F.np).r k.1,k.2)))
def Ak.ckI(F:Ak)(c:Bq)(f:Em)(o:Ds):Bool:=
 (F.cf.all fun g=>Xe g&&(o.cf.any (Ep (EG f.Sd g))||(PT c.np (EG f.Sd g)&&c.cf.any (Ep (EG f.Sd g)))))&&
 ((F.rd.all fun k=>o.rd.any (EK (P1 f.Sd k))||(L6 c.np (P1 f.Sd k)&&c.rd.any (EK (P1 f.Sd k))))&&
 F.mp.all fun k=>o.mp.any (EK (mkSub f.Sd k))||(L6 c.np (mkSub f.Sd k)&&c.mp.any (EK (mkSub f.Sd k))))
def Ak.Qt(F:Ak)(c:Bq)(f:Em)(o:Ds):Bool:=F.ckA f o&&(F.ckB c f o&&(F.ckC f o&&(F.ckL f&&(F.ckF f o&&F.ckI c f o))))
def Ak.HO(F:Ak)(c:Bq):Bool:=
 F.D.Du&&((F.D.bl.all (fun p=>p.2.lo F.nb)&&(F.cf.all (PT F.nb)&&(F.rd.all (L6 F.nb)&&F.mp.all (L6 F.nb))))&&(Nat.blt 0 F.np&&(((F.args.all fun a=>a.within (fun _=>false)&&(a.P7&&a.lo F.np))&&F.args.all (AV.within (Ae [(0,.Am (0,0))])))&&((F.M8.all (PT F.np)&&F.M8.all AeZ)&&(Nat.beq F.outs.length c.outs.length&&((F.outs.zip c.outs).all fun p=>F.Qt c p.1 p.2))))))
def Ak.full(F:Ak)(Yq0 U:An):An:=
 {v:=fun i=>if i<F.nb then Yq0.v i else U.v (i-F.nb),r:=fun i=>if i<F.nb then Yq0.r i else U.r (i-F.nb),m:=fun i=>if i<F.nb then Yq0.m i else U.m (i-F.nb),k:=Yq0.k,b:=fun i=>Yq0.b i,ro:=fun i=>Yq0.ro i}
theorem Ak.Aac{F:Ak}{Yq0 U:An}:Ai F.nb Yq0 (F.full Yq0 U):=⟨fun _ h=>if_pos h,fun _ h=>if_pos h,fun _ h=>if_pos h,rfl,fun _ _=>rfl,fun _ _=>rfl⟩
theorem F2.Xz{Y':An}{np:Nat}{S:Sb}(hg:Tg np U (S.sig Y')):∀{l:List AV} {vs:List Value},(l.all fun a=>a.within (fun _=>false)&&(a.P7&&a.lo np))=true->F2 (Bb J U) l vs->F2 (Bb J' Y') (l.map (AV.sub S)) vs:=by
 intro l
 induction l with
 |nil=>intro vs _ h;cases h;exact .nil
 |cons a l ih=>
  intro vs hl h;simp only[List.all_cons,Ah]at hl;cases h with
  |cons h0 h1=>exact .cons (Bb.Ft (k:=fun _=>false) (Bb.free hl.1.1 (hg.av hl.1.2.2 hl.1.2.1 h0))) (ih (by rw[Bf];intro x hx;exact Bf.1 hl.2 x hx) h1)
end Eng
namespace Eng
open Go Go.RowKit
variable {P:Program} {C C':AB} {U U' Y:An} {J J':A1} {W:Wd} {n:Nat}
def Ah6(h:H)(b m:Nat):Bool:=match h.get b with |some (.cells _ n true _)=>Nat.beq n m|_=>false
def Ah5(h:H)(b m:Nat):Bool:=match h.get b with |some (.cells _ n _ _)=>Nat.ble m n|_=>false
def awk(h:H)(a a':A):Bool:=A.AJ a a'||match a,a' with
 |.int k z,.sym k' (.lit m)=>decide (k=k')&&decide (z=m)
 |.bool b,.sb (.lit m)=>decide (b=decide (m ≠ 0))
 |.slice b 0 l c,.C2 b' es (.lit m)=>Nat.beq b b'&&(decide (m=(l:Int))&&(Nat.ble l c&&Ah6 h b (c*es)))
 |.KW b 0 l es,.C2 b' JP (.lit m)=>(Nat.beq b b'&&Nat.beq es JP)&&(decide (m=(l:Int))&&(Nat.blt 0 es&&Ah5 h b (l*es)))
 |.B7,.C2 _ _ (.lit m)=>decide (m=0)
 |_,_=>false
theorem AR.wk{h:H}{w:World}(hr:Rel J U C h w){a a':A}{v:Value}(hk:awk h a a'=true)(hv:AR J U a v):AR J U a' v:=by
 unfold awk at hk;rw[Bool.or_eq_true]at hk;rcases hk with hk|hk
 ·rw[<-A.Ac hk];exact hv
 split at hk
 ·rename_i k z k' m;rw[Ah,decide_eq_true_iff,decide_eq_true_iff]at hk;obtain⟨e1,e2⟩:=hk;subst e1 e2;exact hv
 ·rename_i b m;have e:=of_decide_eq_true hk;have hv:v=.bool b:=hv;show v=.bool (decide (m ≠ 0));rw[hv,e]
 ·rename_i b l c b' es m;simp only[Ah]at hk;obtain⟨e1,e2,e3,e4⟩:=hk;have e1:=beq_eq e1;have e2:=of_decide_eq_true e2;subst e1 e2;obtain⟨r,S,h1,h2⟩:=hv;refine⟨_,l,c,h2,rfl,.inr ⟨r,S,h1,rfl,?_,AN e3⟩⟩;obtain⟨o,ho,hx⟩:=hr.AE _ _ _ h1;unfold Ah6 at e4;split at e4
  ·rename_i c' n' s' hg;obtain⟨cs,ty,q1,q2,q3,q4,_⟩:=hx _ hg;rw[<-beq_eq e4];exact q4 rfl
  ·cases e4
 ·rename_i b l es b' JP m;simp only[Ah]at hk;obtain⟨⟨e1,e5⟩,e2,e3,e4⟩:=hk;have e1:=beq_eq e1;have e5:=beq_eq e5;have e2:=of_decide_eq_true e2;subst e1 e2 e5;obtain⟨r,S,c,h1,h2,h3⟩:=hv;rw[Nat.zero_add]at h3;refine⟨_,l,c,h2,rfl,.inr ⟨r,S,h1,rfl,h3,?_⟩⟩;obtain⟨o,ho,hx⟩:=hr.AE _ _ _ h1;unfold Ah5 at e4;split at e4
  ·rename_i c' n' f' s' hg;obtain⟨cs,ty,q1,q2,q3,q4,_⟩:=hx _ hg;have:=AN e4;rw[<-h3]at q3;exact Nat.le_of_mul_le_mul_right (Nat.le_trans this q3) (AF e3)
  ·cases e4
 ·rename_i m;have e:=of_decide_eq_true hk;subst e;exact⟨none,0,0,hv,rfl,.inl ⟨rfl,rfl,rfl⟩⟩
 ·cases hk
def A.cv(a:A):Option Value:=match a with |.bool b=>some (.bool b)|.int k n=>some (.int k n)|.B7=>some (.slice none 0 0)|_=>none
theorem A.Xj{a:A}{u v:Value}(h:a.cv=some u)(hv:AR J U a v):v=u/\u.oneCell'=true:=by
 cases a<;>first|(cases h;done)|(cases h;exact⟨hv,rfl⟩)
def QF(c:T A)(es:Nat)(j k:Nat):Value:=match T.get c (j*es+k) with |some a=>a.cv.getD undef|none=>undef
def V.cv(v:V):Option Value:=match v with |.one a=>a.cv|.agg l=>bif l.all (fun a=>a.cv.isSome) then some (.agg (l.map fun a=>a.cv.getD undef).toArray) else none
def GP(e:ME):Option Int:=match e.key with |.one (.int .i64 z)=>some z|_=>none
def Dz(l:List ME)(z:Int):Option Value:=(l.find? fun e=>decide (GP e=some z)).bind fun e=>e.val.cv
structure Iq where
 rows:List (Nat×T A×Nat)
 maps:List (Nat×List ME)
def Iq.sig(L:Iq):An:={v:=fun _=>0,r:=fun t=>match L.rows.find? (fun p=>Nat.beq p.1 t) with |some p=>QF p.2.1 p.2.2 |none=>fun _ _=>undef,m:=fun t=>match L.maps.find? (fun p=>Nat.beq p.1 t) with |some p=>Dz p.2 |none=>fun _=>none}
def Ap8(c c':T A)(i:Nat):Bool:=match T.get c i,T.get c' i with |some a,some a'=>A.AJ a a'&&a.cv.isSome|_,_=>false
def KB:List ME->Bool
 | []=>true
 |e::l=>(match GP e with |some z=>(l.all fun e'=>(match GP e' with |some z'=>(decide (z ≠ z')&& !Nat.beq e.born e'.born)|none=>false))|none=>false)&&KB l
def AgX(a b:Option V):Bool:=match a,b with |some a,some b=>V.AJ a b|none,none=>true|_,_=>false
theorem AdL{a b:Option V}(h:AgX a b=true):a=b:=by
 cases a<;>cases b
 ·rfl
 ·cases h
 ·cases h
 ·rw[V.Ac h]
def AaF(h:H)(a b:Option V):Bool:=AgX a b||match a,b with |some (.one a),some (.one b)=>awk h a b|_,_=>false
def AcY(L:Iq)(h:H)(x x':Aj):Bool:=match x,x' with
 |_,.dead=>true
 |.cells c n f _,.cells c' n' f' none=>(Nat.ble n' n&&(!f'||(f&&Nat.beq n n')))&&(List.range n').all fun i=>match T.get c' i with |some a'=>(match T.get c i with |some a=>awk h a a'|none=>false)|none=>true
 |.cells c n _ _,.row t es (.lit m) []=>(match L.rows.find? (fun p=>Nat.beq p.1 t) with |some p=>Nat.beq p.2.2 es&&(decide (0<=m)&&(Nat.ble (m.toNat*es) n&&(List.range (m.toNat*es)).all fun i=>Ap8 c p.2.1 i))|none=>false)
 |.map l clock,.Ej t []=>(match L.maps.find? (fun p=>Nat.beq p.1 t) with |some p=>Av meEqb l p.2&&(KB l&&l.all fun e=>e.val.cv.isSome&&Nat.blt e.born clock)|none=>false)
 |.Ej t kn,.Ej t' [(e,y)]=>Nat.beq t t'&&(match kn with |(e0,y0)::l=>e0.AJ e&&(AaF h y0 y&&l.all fun p=>p.1.AJ e)| []=>false)
 |_,_=>false
 where meEqb (a b:ME):Bool:=V.AJ a.key b.key&&(V.AJ a.val b.val&&Nat.beq a.born b.born)
def Fw(x:Aj):Bool:=match x with |.Am _=>false|_=>true
def bwk(L:Iq)(h:H)(x x':Aj):Bool:=(Aj.eq2 x x'&&Fw x')||AcY L h x x'
theorem WX{L:Iq}{h:H}{x x':Aj}(hk:bwk L h x x'=true)(hd:x' ≠ .dead):x ≠ .dead:=by
 intro e;unfold bwk at hk;rw[Bool.or_eq_true,Ah]at hk;rcases hk with hk|hk
 ·exact hd ((Aj.GO hk.1).symm.trans e)
 ·unfold AcY at hk;split at hk<;>first|exact hd rfl|(cases e;done)|(cases hk;done)
theorem V.Xj{a:V}{u v:Value}(h:a.cv=some u)(hv:VR J U a v):v=u:=by
 cases a with
 |one a=>exact (A.Xj h hv).1
 |agg l=>
  obtain⟨vs,e,hv⟩:=hv;have h:(bif l.all (fun a=>a.cv.isSome) then some (Value.agg (l.map fun a=>a.cv.getD undef).toArray) else none)=some u:=h;cases hc:l.all (fun a=>a.cv.isSome) with
  |false=>rw[hc]at h;cases h
  |true=>
   rw[hc]at h;cases h;rw[e]
   congr 1
   congr 1
   clear e h
   induction hv with
   |nil=>rfl
   | @cons a b as bs h1 _ ih=>
    simp only[List.all_cons,Ah]at hc;obtain⟨x,hx⟩:=Option.isSome_iff_exists.1 hc.1;have e1:=ih hc.2;have e2:=(A.Xj hx h1).1;rw[List.map_cons,hx,<-e1,e2];rfl
theorem Jr{e:ME}{m:MapEntry}{z:Int}(h:GP e=some z)(hm:WL J U e m):m.key=.int .i64 z:=by
 unfold GP at h;split at h
 ·rename_i z' hk;cases h;have:=hm.1;rw[hk]at this;exact this
 ·cases h
theorem P2{e:ME}{l:List ME}(h:KB (e::l)=true):(∃z,GP e=some z/\∀e'∈l,∃z',GP e'=some z'/\z ≠ z'/\e.born ≠ e'.born)/\KB l=true:=by
 unfold KB at h;rw[Ah]at h;refine⟨?_,h.2⟩;cases hz:GP e with
 |none=>rw[hz]at h;cases h.1
 |some z=>
  rw[hz]at h;refine⟨z,rfl,fun e' GJ=>?_⟩;have:=Bf.1 h.1 e' GJ;cases L5:GP e' with
  |none=>rw[L5]at this;cases this
  |some z'=>
   rw[L5]at this;simp only[Ah,decide_eq_true_iff,Bool.not_eq_true']at this;exact⟨z',rfl,this.1,fun e=>by rw[e,Nat.beq_refl]at this;cases this.2⟩
theorem F2.mem{α β:Type}{R:α->β->Prop}:∀{l:List α} {m:List β},F2 R l m->∀{b:β},b∈m->∃a∈l,R a b
 |_,_,.cons h t,b,hb=>by
  rcases BL.1 hb with e|e
  ·subst e;exact⟨_,GU,h⟩
  ·obtain⟨a,ha,hr⟩:=F2.mem t e;exact⟨a,Gq _ ha,hr⟩
theorem AnE{clock:Nat}{l:List ME}{ms:List MapEntry}(h:F2 (WL J U) l ms)(hu:KB l=true)(ha:(l.all fun e=>e.val.cv.isSome&&Nat.blt e.born clock)=true):
 CX ms clock/\∀z,match Dz l z with |some u=>BV ms z (fun u'=>u'=u)|none=>∀e∈ms,e.key ≠ .int .i64 z:=by
 induction h with
 |nil=>exact⟨⟨fun _ h=>(nomatch h),.nil,fun _ h=>(nomatch h),.nil⟩,fun z _ h=>(nomatch h)⟩
 | @cons e m l ms h1 ht ih=>
  obtain⟨⟨z,hz,hl⟩,CT⟩:=P2 hu;simp only[List.all_cons,Ah]at ha;obtain⟨⟨k1,k2,k3,k4⟩,k5⟩:=ih CT ha.2;have hk:=Jr hz h1;have hb:=h1.2.2;obtain⟨u,hcv⟩:=Option.isSome_iff_exists.1 ha.1.1;have hval:=V.Xj hcv h1.2.1;refine⟨⟨fun e' GJ=>?_,List.pairwise_cons.2 ⟨fun e' GJ=>?_,k2⟩,fun e' GJ=>?_,List.pairwise_cons.2 ⟨fun e' GJ=>?_,k4⟩⟩,fun y=>?_⟩
  ·rcases BL.1 GJ with e0|e0
   ·subst e0;exact⟨z,hk⟩
   ·exact k1 e' e0
  ·obtain⟨a,hal,hm⟩:=ht.mem GJ;obtain⟨z',L5,Bs,_⟩:=hl a hal;rw[hk,Jr L5 hm];exact fun e0=>by cases e0;exact Bs rfl
  ·rcases BL.1 GJ with e0|e0
   ·subst e0;rw[hb];exact AF ha.1.2
   ·exact k3 e' e0
  ·obtain⟨a,hal,hm⟩:=ht.mem GJ;obtain⟨z',L5,_,Bs⟩:=hl a hal;rw[hb,hm.2.2];exact Bs
  ·have k5:=k5 y;unfold Dz at k5 ⊢
   by_cases e0:y=z
   ·subst e0;rw[List.find?_cons_of_pos (by rw[hz];exact decide_eq_true rfl)];show match e.val.cv with |some u=>_|none=>_
    rw[hcv];exact⟨m,GU,hk,hval⟩
   ·rw[List.find?_cons_of_neg (by rw[hz];simp;exact fun h=>e0 h.symm)]
    revert k5
    cases (List.find? (fun e=>decide (GP e=some y)) l).bind fun e=>e.val.cv with
    |some u'=>
     rintro ⟨x,hx,q⟩
     exact⟨x,Gq _ hx,q⟩
    |none=>
     intro k5 x hx;rcases BL.1 hx with e1|e1
     ·subst e1;rw[hk];exact fun h=>by cases h;exact e0 rfl
     ·exact k5 x e1
theorem Yq{a b:ME}(h:AcY.meEqb a b=true):a=b:=by
 unfold AcY.meEqb at h;simp only[Ah]at h;obtain⟨h1,h2,h3⟩:=h;obtain⟨a1,a2,a3⟩:=a;obtain⟨b1,b2,b3⟩:=b;rw[show a1=b1 from V.Ac h1,show a2=b2 from V.Ac h2,show a3=b3 from beq_eq h3]
structure Iq.on(L:Iq)(U:An):Prop where
 r:∀t p,L.rows.find? (fun p=>Nat.beq p.1 t)=some p->∀j c a,c<p.2.2->T.get p.2.1 (j*p.2.2+c)=some a->U.r t j c=a.cv.getD undef
 m:∀t p,L.maps.find? (fun p=>Nat.beq p.1 t)=some p->U.m t=Dz p.2
theorem Iq.AnR{L:Iq}(hR:U.r=L.sig.r)(hM:U.m=L.sig.m):L.on U:=⟨fun t p h j c a _ ha=>by
 rw[hR];show (match L.rows.find? (fun (p:Nat×T A×Nat)=>Nat.beq p.1 t) with |some p=>QF p.2.1 p.2.2 |none=>fun _ _=>undef) j c=_;rw[h];show QF p.2.1 p.2.2 j c=_;unfold QF;rw[ha],fun t p h=>by
 rw[hM];show (match L.maps.find? (fun (p:Nat×List ME)=>Nat.beq p.1 t) with |some p=>Dz p.2 |none=>_)=_;rw[h]⟩
theorem BR.wk{L:Iq}{h:H}{w:World}(hL:L.on U)(hr:Rel J U C h w){x x':Aj}{o:Obj}{S:Nat}(hk:bwk L h x x'=true)(hx:BR J U C x o S):BR J U C x' o S:=by
 unfold bwk at hk;rw[Bool.or_eq_true,Ah]at hk;rcases hk with hk|hk
 ·rw[<-Aj.GO hk.1];exact hx
 unfold AcY at hk;split at hk
 ·trivial
 ·rename_i c n f _ c' n' f';simp only[Ah]at hk;obtain⟨⟨k1,k2⟩,k3⟩:=hk;obtain⟨cs,e,h1,h2,h3,h4,h5⟩:=hx;refine⟨cs,e,h1,h2,Nat.le_trans (AN k1) h3,fun hf=>?_,fun i a hi ha=>?_⟩
  ·rw[hf]at k2;simp only[Bool.not_true,Bool.false_or,Ah]at k2;rw[<-beq_eq k2.2];exact h4 k2.1
  ·have:=Bf.1 k3 i (List.mem_range.2 hi);rw[ha]at this;cases hg:T.get c i with
   |none=>rw[hg]at this;cases this
   |some a0=>
    rw[hg]at this;obtain⟨v,q1,q2⟩:=h5 i a0 (by have:=AN k1;omega) hg;exact⟨v,q1,q2.wk hr this⟩
 ·rename_i c n f s t es m;obtain⟨cs,e,h1,h2,h3,h4,h5⟩:=hx;cases hf:L.rows.find? (fun p=>Nat.beq p.1 t) with
  |none=>rw[hf]at hk;cases hk
  |some p=>
   rw[hf]at hk;simp only[Ah]at hk;obtain⟨k1,k2,k3,k4⟩:=hk;have k1:=beq_eq k1;have k2:0<=m:=of_decide_eq_true k2;have k3:=AN k3;have cell:∀i,i<m.toNat*es->∃a u,T.get p.2.1 i=some a/\a.cv=some u/\cs[i]? =some u/\u.oneCell'=true:=by
    intro i hi;have:=Bf.1 k4 i (List.mem_range.2 hi);unfold Ap8 at this;split at this
    ·rename_i a a' g1 g2;rw[Ah]at this;have ea:=A.Ac this.1;subst ea;obtain⟨u,hu⟩:=Option.isSome_iff_exists.1 this.2;obtain⟨v,q1,q2⟩:=h5 i a (by omega) g1;obtain⟨q3,q4⟩:=A.Xj hu q2;subst q3;exact⟨a,v,g2,hu,q1,q4⟩
    ·cases this
   refine⟨cs,e,m.toNat,h1,h2,Int.toNat_of_nonneg k2,by omega,fun i u hi hu=>?_,fun _ h=>(nomatch h),fun j c0 hj hc0=>?_⟩
   ·obtain⟨a,u',_,_,q,q'⟩:=cell i hi;rw[hu]at q;cases q;exact q'
   ·have Au:j*es+c0<m.toNat*es:=IM (Nat.add_lt_add_left hc0 _) (by rw[<-Nat.succ_mul];exact Nat.mul_le_mul_right _ hj);obtain⟨a,u,g1,g2,q,_⟩:=cell _ Au;refine⟨u,q,?_⟩;show u=U.r t j c0;rw[hL.r t p hf j c0 a (by rw[k1];exact hc0) (by rw[k1];exact g1),g2];rfl
 ·rename_i l clock t;obtain⟨ms,h1,h2⟩:=hx;cases hf:L.maps.find? (fun p=>Nat.beq p.1 t) with
  |none=>rw[hf]at hk;cases hk
  |some p=>
   rw[hf]at hk;simp only[Ah]at hk;obtain⟨k1,k2,k3⟩:=hk;have k1:=Ag (fun _ _=>Yq) k1;obtain⟨q1,q2⟩:=AnE h2 k2 k3;refine⟨ms,clock,h1,q1,fun z=>?_⟩;have q2:=q2 z;unfold BY;show match U.m t z with |some u=>_|none=>_
   rw[hL.m t p hf];show match Dz p.2 z with |some u=>_|none=>_
   rw[<-k1];exact q2
 ·rename_i t kn t' e y;rw[Ah]at hk;obtain⟨k1,k2⟩:=hk;have k1:=beq_eq k1;subst k1;obtain⟨ms,clock,h1,h2,D8⟩:=hx;refine⟨ms,clock,h1,h2,fun z=>?_⟩;have h3:=D8 z;clear D8;cases kn with
  |nil=>cases k2
  |cons p l=>
   obtain⟨e0,y0⟩:=p;have k2:(e0.AJ e&&(AaF h y0 y&&l.all fun p=>p.1.AJ e))=true:=k2;simp only[Ah]at k2;obtain⟨q1,q2,q3⟩:=k2;have q1:=Eng.Ac q1;subst q1;have hlook:Bp U z ((e0,y0)::l)=Bp U z [(e0,y0)]:=by
    show (if e0.den U=z then some y0 else Bp U z l)=(if e0.den U=z then some y0 else none);split
    ·rfl
    ·rename_i Bs;clear h3 k2
     induction l with
     |nil=>rfl
     |cons p l ih=>
      simp only[List.all_cons,Ah]at q3;show (if p.1.den U=z then some p.2 else Bp U z l)=none;rw[Eng.Ac q3.1,if_neg Bs];exact ih q3.2
   unfold BY at h3 ⊢;rw[hlook]at h3;have look:∀y':Option V,Bp U z [(e0,y')]=if e0.den U=z then some y' else none:=fun _=>rfl
   rw[look]at h3 ⊢
   by_cases hz:e0.den U=z
   ·rw[if_pos hz]at h3 ⊢;unfold AaF at q2;rw[Bool.or_eq_true]at q2;rcases q2 with q2|q2
    ·rw[<-AdL q2];exact h3
    ·split at q2
     ·rename_i a b;obtain⟨e,he,hke,hv⟩:=h3;exact⟨e,he,hke,AR.wk hr q2 hv⟩
     ·cases q2
   ·rw[if_neg hz]at h3 ⊢;exact h3
 ·cases hk
end Eng
section
namespace Eng
open Go Go.RowKit
variable {P:Program} {C C':AB} {U U' Y:An} {J J':A1} {W:Wd} {n:Nat}
def AlK(PS:List (Nat×Aj))(x:Aj):Bool:=match x with |.cells _ _ _ (some b')=> !Ae PS b'|_=>true
def PG(L:Iq)(bl:List (Nat×Aj))(n:Nat)(PS:List (Nat×Aj))(n':Nat):Bool:=
 Nat.ble n n'&&PS.all fun p=>Nat.blt p.1 n'&&((p.2.within (Ae PS)&&Fw p.2)&&(Nat.ble n p.1||match (Aa bl n).get p.1 with |some x=>bwk L (Aa bl n) x p.2&&AlK PS x|none=>false))
theorem Rel.wk{L:Iq}{w:World}{bl PS:List (Nat×Aj)}{n':Nat}(hL:L.on U)(hr:Rel J U C (Aa bl n) w)(hk:PG L bl n PS n'=true):Rel (Eng.AL J (Ae PS)) U C (Aa PS n') w:=by
 unfold PG at hk;rw[Ah]at hk;have hat:∀{b x'},(Aa PS n').get b=some x'->x'.within (Ae PS)=true/\Fw x'=true/\(n<=b\/∃x,(Aa bl n).get b=some x/\bwk L (Aa bl n) x x'=true/\AlK PS x=true):=by
  intro b x' hg;have:=Bf.1 hk.2 _ (Ad hg);simp only[Ah,Bool.or_eq_true]at this;obtain⟨h1,⟨h2,h4⟩,h3⟩:=this;refine⟨h2,h4,h3.imp AN fun h3=>?_⟩;cases hx:(Aa bl n).get b with
  |none=>rw[hx]at h3;cases h3
  |some x=>
   rw[hx]at h3;rw[Ah]at h3;exact⟨x,rfl,h3.1,h3.2⟩
 have GB:∀{b t},(Aa PS n').get b ≠ some (.Am t):=by
  intro b t hg;cases (hat hg).2.1
 have live:∀{b x x'},x' ≠ .dead->(Aa bl n).get b=some x->bwk L (Aa bl n) x x'=true->Live (Aa bl n) b:=by
  intro b x x' hd hg h;exact⟨x,hg,WX h hd⟩
 have lt:∀{b r S},J b=some (r,S)->b<n:=fun h=>hr.lt _ _ _ h
 refine⟨fun b r S hb=>IM (lt (As hb).2) (AN hk.1),fun b r S hb=>?_,fun b b' r S S' hb AS ⟨y,hy,hd⟩ ⟨y',FH,hd'⟩=>?_,fun r o hk=>⟨(hr.kept r o hk).1,fun b S hb=>(hr.kept r o hk).2 b S (As hb).2⟩,⟨fun b t hg=>(GB hg).elim,fun b t hg=>(GB hg).elim,fun b t _ _ hg=>(GB hg).elim⟩⟩
 ·obtain⟨o,ho,hx⟩:=hr.AE b r S (As hb).2;refine⟨o,ho,fun x' hg=>?_⟩;obtain⟨h2,_,h|⟨x,h3,h4,_⟩⟩:=hat hg
  ·have:=lt (As hb).2;omega
  ·exact ((hx x h3).wk hL hr h4).AL h2
 ·have l1:=lt (As hb).2;have l2:=lt (As AS).2;obtain⟨_,_,h|⟨x,h3,h4,h5⟩⟩:=hat hy
  ·omega
  obtain⟨_,_,h|⟨x1,k3,k4,_⟩⟩:=hat FH
  ·omega
  rcases hr.inj b b' r S S' (As hb).2 (As AS).2 (live hd h3 h4) (live hd' k3 k4) with e|⟨c,m,f,e⟩
  ·exact .inl e
  ·rw[h3]at e;cases e;have h5:(!Ae PS b')=true:=h5;rw[(As AS).1]at h5;cases h5
theorem Lu{L:Iq}{bl PS:List (Nat×Aj)}{n':Nat}(hk:PG L bl n PS n'=true):∀{b x'},(Aa PS n').get b=some x'->Ae PS b=true/\Fw x'=true/\(x' ≠ .dead->n<=b\/Live (Aa bl n) b):=by
 intro b x' hg;unfold PG at hk;rw[Ah]at hk;have:=Bf.1 hk.2 _ (Ad hg);simp only[Ah,Bool.or_eq_true]at this;obtain⟨_,⟨_,h4⟩,h3⟩:=this;refine⟨List.any_eq_true.2 ⟨_,Ad hg,Nat.beq_refl _⟩,h4,fun hd=>h3.imp AN fun h3=>?_⟩;cases hx:(Aa bl n).get b with
 |none=>rw[hx]at h3;cases h3
 |some x=>
  rw[hx]at h3;rw[Ah]at h3;exact⟨x,hx,WX h3.1 hd⟩
theorem Rel.wk2{L:Iq}{w:World}{h:H}{bl PS:List (Nat×Aj)}{n':Nat}(hL:L.on U)(hr:Rel J U C h w)(Bl:∀p∈bl,h.get p.1=some p.2)(FF:Gc bl n=true)(hn:h.next<=n)(hk:PG L bl n PS n'=true):Rel J U C (Aa PS n') w:=by
 have r1:=hr.forget Bl FF;have r2:=r1.wk hL hk;have hnn:n<=n':=by unfold PG at hk;rw[Ah]at hk;exact AN hk.1
 have GB:∀{b t},(Aa PS n').get b ≠ some (.Am t):=by
  intro b t hg;have:=(Lu hk hg).2.1;cases this
 have DU:Sub (Eng.AL (Eng.AL J (Ae bl)) (Ae PS)) J:=fun b x h=>(As (As h).2).2
 have hup:∀{b r S x'},J b=some (r,S)->(Aa PS n').get b=some x'->x' ≠ .dead->Eng.AL (Eng.AL J (Ae bl)) (Ae PS) b=some (r,S):=by
  intro b r S x' hb hg hd;obtain⟨h1,_,h2⟩:=Lu hk hg;rcases h2 hd with h2|⟨x,h2,_⟩
  ·have:=hr.lt b r S hb;omega
  ·rw[BT h1,BT (Ei (Ad h2))];exact hb
 refine⟨fun b r S hb=>by have:=hr.lt b r S hb;exact IM this (by show h.next<=n';omega),fun b r S hb=>?_,fun b b' r S S' hb AS ⟨y,hy,hd⟩ ⟨y',FH,hd'⟩=>r2.inj b b' r S S' (hup hb hy hd) (hup AS FH hd') ⟨y,hy,hd⟩ ⟨y',FH,hd'⟩,hr.kept,⟨fun b t hg=>(GB hg).elim,fun b t hg=>(GB hg).elim,fun b t _ _ hg=>(GB hg).elim⟩⟩;obtain⟨o,ho,_⟩:=hr.AE b r S hb;refine⟨o,ho,fun x' hg=>?_⟩
 by_cases hd:x'=.dead
 ·subst hd;trivial
 ·obtain⟨o',HQ,hx⟩:=r2.AE b r S (hup hb hg hd);rw[ho]at HQ;cases HQ;exact (hx x' hg).mono DU
structure Tq where
 P:CH
 b0:Nat
 K:List Nat
 key:Nat
 t:Nat
 o:Nat
def Tq.Du(c:Tq)(J:A1)(h:H)(w:World):Prop:=∃ro S0,J c.b0=some (ro,S0)/\(c.P.at_ ro).rep w/\(∀y,(c.P.at_ ro).fp w y->∃b∈c.K,∃S,J b=some (y,S))/\∀b∈c.K,Live h b
def exA(rs:List (Nat×Nat))(a a':A):Bool:=(A.AJ a a'&&a.P7)||match a,a' with |.ptr b 0,.fp o=>rs.any fun p=>Nat.beq p.1 o&&Nat.beq p.2 b|_,_=>false
def exB(rs:List (Nat×Nat))(x x':Aj):Bool:=(Aj.eq2 x x'&&x.P7)||match x,x' with
 |.cells c n f none,.cells c' n' f' none=>(Nat.beq n n'&&decide (f=f'))&&(List.range n').all fun i=>match T.get c' i with |some a'=>(match T.get c i with |some a=>exA rs a a'|none=>false)|none=>true
 |_,.dead=>true
 |_,_=>false
def VO(x:Aj):Bool:=match x with |.dead=>false|_=>true
def OV(x:Aj):Bool:=match x with |.cells _ _ _ (some _)=>false|.Am _=>false|_=>true
def Adj(l:List (List Nat)):Bool:=match l with | []=>true|a::l=>(l.all fun b=>a.all fun x=>b.all fun y=> !Nat.beq x y)&&Adj l
def V1(bl:List (Nat×Aj))(n:Nat)(ex:List (Nat×Aj))(cs:List Tq):Bool:=
 ((bl.all fun p=>OV p.2)&&(ex.all fun p=>Nat.blt p.1 n&&(p.2.within (Ae ex)&&(Fw p.2&&(match (Aa bl n).get p.1 with |some x=>VO x&&exB (cs.map fun c=>(c.o,c.b0)) x p.2 |none=>false)))))&&
 ((cs.all fun c=> !Ae ex c.key&&c.K.all fun b=> !Ae ex b)&&(Adj (cs.map Tq.K)&&Adj (cs.map fun c=>[c.key])))
theorem Vt{l:List (List Nat)}(h:Adj l=true):∀{i j:Nat} {a b:List Nat},l[i]? =some a->l[j]? =some b->i ≠ j->∀x∈a,∀y∈b,x ≠ y:=by
 induction l with
 |nil=>intro i j a b ha;cases ha
 |cons c l ih=>
  unfold Adj at h;rw[Ah]at h;have h0:∀b∈l,∀x∈c,∀y∈b,x ≠ y:=fun b hb x hx y hy e=>by
   have:=Bf.1 (Bf.1 (Bf.1 h.1 b hb) x hx) y hy;rw[e,Nat.beq_refl]at this;cases this
  intro i j a b ha hb Bs x hx y hy
  match i,j,ha,hb with
  | 0,0,_,_=>exact absurd rfl Bs
  | 0,j+1,ha,hb=>cases ha;exact h0 b (Oj hb) x hx y hy
  |i+1,0,ha,hb=>cases hb;exact fun e=>h0 a (Oj ha) y hy x hx e.symm
  |i+1,j+1,ha,hb=>exact ih h.2 ha hb (fun e=>Bs (by rw[e])) x hx y hy
theorem Le{bl:List (Nat×Aj)}(h:(bl.all fun p=>OV p.2)=true){b b':Nat}:¬Sib (Aa bl n) b b':=by
 rintro ⟨c,m,f,e⟩
 have:=Bf.1 h _ (Ad e);cases this
theorem AmO{rs:List (Nat×Nat)}{a a':A}{v:Value}(hk:exA rs a a'=true)(hro:∀o b,(o,b)∈rs->∃S,J b=some (U'.ro o,S))(hσ:∀a v,a.P7=true->AR J U a v->AR J U' a v)(hv:AR J U a v):AR J U' a' v:=by
 unfold exA at hk;rw[Bool.or_eq_true,Ah]at hk;rcases hk with ⟨h1,h2⟩|hk
 ·rw[<-A.Ac h1];exact hσ a v h2 hv
 ·split at hk
  ·rename_i b o;obtain⟨p,hp,e⟩:=List.any_eq_true.1 hk;rw[Ah]at e;obtain⟨S,hS⟩:=hro p.1 p.2 hp;rw[beq_eq e.1,beq_eq e.2]at hS;obtain⟨r,S',h1,h2⟩:∃r S,J b=some (r,S)/\v=.pointer (some ⟨r,0,none⟩):=hv
   rw[h1]at hS;cases hS;exact h2
  ·cases hk
variable [AD]
theorem AmP{rs:List (Nat×Nat)}{x x':Aj}{o:Obj}{S:Nat}(hk:exB rs x x'=true)(hro:∀o b,(o,b)∈rs->∃S,J b=some (U'.ro o,S))(hc:U'.core U=U)(hx:BR J U C x o S):BR J U' C x' o S:=by
 unfold exB at hk;rw[Bool.or_eq_true,Ah]at hk;rcases hk with ⟨h1,h2⟩|hk
 ·rw[<-Aj.GO h1];exact BR.core h2 (Y:=U) (by rw[hc];exact hx)
 ·split at hk
  ·rename_i c n f c' n' f';simp only[Ah,decide_eq_true_iff]at hk;obtain⟨⟨k1,k2⟩,k3⟩:=hk;have k1:=beq_eq k1;subst k1 k2;obtain⟨cs,e,h1,h2,h3,h4,h5⟩:=hx;refine⟨cs,e,h1,h2,h3,h4,fun i a' hi ha=>?_⟩;have:=Bf.1 k3 i (List.mem_range.2 hi);rw[ha]at this;cases hg:T.get c i with
   |none=>rw[hg]at this;cases this
   |some a=>
    rw[hg]at this;obtain⟨v,q1,q2⟩:=h5 i a hi hg;exact⟨v,q1,AmO this hro (fun a v hn h=>AR.core hn (Y:=U) (by rw[hc];exact h)) q2⟩
  ·trivial
  ·cases hk
theorem Rel.Aqa{cs:List Tq}{bl ex:List (Nat×Aj)}{w:World}{n':Nat}(hr:Rel J U C (Aa bl n) w)(hk:V1 bl n ex cs=true)(hn:n<=n')(hg:∀c∈cs,c.Du J (Aa bl n) w)(hv:U'.v=U.v)(hR:U'.r=U.r)(hM:U'.m=U.m)(hK:U'.k=U.k)
 (hb:∀c∈cs,U'.b c.t=c.P) (ho:∀c∈cs,∃S,J c.b0=some (U'.ro c.o,S)):Rel (Eng.AL J (Ae ex)) U' C (Aa (ex++cs.map fun c=>(c.key,.Am (c.t,c.o))) n') w:=by
 unfold V1 at hk;simp only[Ah]at hk;obtain⟨⟨k1,k2⟩,k3,k4,k5⟩:=hk;have hc:U'.core U=U:=by
  unfold An.core;rw[hv,hR,hM]
 have hro:∀o b,(o,b)∈cs.map (fun c=>(c.o,c.b0))->∃S,J b=some (U'.ro o,S):=by
  intro o b h;obtain⟨c,LG,e⟩:=List.mem_map.1 h;cases e;exact ho c LG
 have hat:∀{b x'},(b,x')∈ex->b<n/\x'.within (Ae ex)=true/\Fw x'=true/\∃x,(Aa bl n).get b=some x/\x ≠ .dead/\exB (cs.map fun c=>(c.o,c.b0)) x x'=true:=by
  intro b x' h;have:=Bf.1 k2 _ h;simp only[Ah]at this;obtain⟨h1,h2,h3,h4⟩:=this;cases hx:(Aa bl n).get b with
  |none=>rw[hx]at h4;cases h4
  |some x=>
   rw[hx]at h4;rw[Ah]at h4;exact⟨AF h1,h2,h3,x,rfl,(fun e=>by rw[e]at h4;cases h4.1),h4.2⟩
 have PY:∀{c},c∈cs->Ae ex c.key=false/\∀b∈c.K,Ae ex b=false:=by
  intro c hc;have:=Bf.1 k3 c hc;simp only[Ah,Bool.not_eq_true']at this;exact⟨this.1,fun b hb=>by have:=Bf.1 this.2 b hb;rwa [Bool.not_eq_true']at this⟩
 have hgetE:∀{b x'},(Aa (ex++cs.map fun c=>(c.key,Aj.Am (c.t,c.o))) n').get b=some x'->Ae ex b=true->(b,x')∈ex:=by
  intro b x' h hkb;rcases List.mem_append.1 (Ad h) with h|h
  ·exact h
  ·obtain⟨c,LG,e⟩:=List.mem_map.1 h;cases e;rw[(PY LG).1]at hkb;cases hkb
 have hgetB:∀{b t},(Aa (ex++cs.map fun c=>(c.key,Aj.Am (c.t,c.o))) n').get b=some (.Am t)->∃c∈cs,b=c.key/\t=(c.t,c.o):=by
  intro b t h;rcases List.mem_append.1 (Ad h) with h|h
  ·cases (hat h).2.2.1
  ·obtain⟨c,LG,e⟩:=List.mem_map.1 h;cases e;exact⟨c,LG,rfl,rfl⟩
 have RJ:∀c∈cs,(U'.B (c.t,c.o)).rep w/\∀y,(U'.B (c.t,c.o)).fp w y->∃b∈c.K,(∃S,J b=some (y,S))/\Live (Aa bl n) b:=by
  intro c LG;obtain⟨ro,S0,g1,g2,g3,g4⟩:=hg c LG;obtain⟨S,q⟩:=ho c LG;rw[g1]at q;have e:ro=U'.ro c.o:=by cases q;rfl
  have eB:U'.B (c.t,c.o)=c.P.at_ ro:=by
   show (U'.b c.t).at_ (U'.ro c.o)=_;rw[hb c LG,e]
  rw[eB];exact⟨g2,fun y hy=>let ⟨b,h1,h2⟩:=g3 y hy;⟨b,h1,h2,g4 b h1⟩⟩
 have hexlive:∀{b},Ae ex b=true->Live (Aa bl n) b:=by
  intro b h;obtain⟨p,hp,e⟩:=List.any_eq_true.1 h;obtain⟨_,_,_,x,h1,h2,_⟩:=hat (b:=p.1) (x':=p.2) hp;rw[beq_eq e]at h1;exact⟨x,h1,h2⟩
 have hinj:∀{b b' r S S'},J b=some (r,S)->J b'=some (r,S')->Live (Aa bl n) b->Live (Aa bl n) b'->b=b':=by
  intro b b' r S S' h1 h2 l1 l2;rcases hr.inj b b' r S S' h1 h2 l1 l2 with e|e
  ·exact e
  ·exact (Le k1 e).elim
 refine⟨fun b r S h=>IM (hr.lt b r S (As h).2) hn,fun b r S h=>?_,fun b b' r S S' h h' _ _=>.inl (hinj (As h).2 (As h').2 (hexlive (As h).1) (hexlive (As h').1)),fun r o hk=>?_,⟨fun b t h=>?_,fun b t h r hf=>⟨fun b' S h'=>?_,?_⟩,fun b t b' t' h h' Bs r hf hf'=>?_⟩⟩
 ·obtain⟨o,HQ,hx⟩:=hr.AE b r S (As h).2;refine⟨o,HQ,fun x' hgx=>?_⟩;obtain⟨_,h2,_,x,h3,_,h4⟩:=hat (hgetE hgx (As h).1);exact (AmP h4 hro hc (hx x h3)).AL h2
 ·rw[hK]at hk;exact⟨(hr.kept r o hk).1,fun b S hb=>(hr.kept r o hk).2 b S (As hb).2⟩
 ·obtain⟨c,LG,_,e⟩:=hgetB h;rw[e];exact (RJ c LG).1
 ·obtain⟨c,LG,_,e⟩:=hgetB h;rw[e]at hf;obtain⟨b1,q1,⟨S1,q2⟩,q3⟩:=(RJ c LG).2 r hf;have e1:=hinj q2 (As h').2 q3 (hexlive (As h').1);have:=(PY LG).2 b1 q1;rw[e1,(As h').1]at this;cases this
 ·obtain⟨c,LG,_,e⟩:=hgetB h;rw[e]at hf;obtain⟨b1,q1,⟨S1,q2⟩,q3⟩:=(RJ c LG).2 r hf;rw[hK];cases hkr:U.k r with
  |none=>rfl
  |some x=>exact ((hr.kept r x hkr).2 b1 S1 q2).elim
 ·obtain⟨c,LG,e0,e⟩:=hgetB h;obtain⟨c',hcm',e0',e'⟩:=hgetB h';rw[e]at hf;rw[e']at hf';obtain⟨b1,q1,⟨S1,q2⟩,q3⟩:=(RJ c LG).2 r hf;obtain⟨b2,p1,⟨S2,p2⟩,p3⟩:=(RJ c' hcm').2 r hf';obtain⟨i,hi⟩:=List.getElem?_of_mem LG;obtain⟨j,hj⟩:=List.getElem?_of_mem hcm';refine Vt k4 (i:=i) (j:=j) (by rw[List.getElem?_map,hi];rfl) (by rw[List.getElem?_map,hj];rfl) (fun e1=>?_) b1 q1 b2 p1 (hinj q2 p2 q3 p3);subst e1;rw[hi]at hj;cases hj;exact Bs (e0.trans e0'.symm)
end Eng
namespace Eng
open Go Go.RowKit
variable [AD]
variable {P:Program} {C C':AB} {U U' Y:An} {J J':A1} {W:Wd} {n:Nat}
def wkC(L:Iq)(c:Bq)(o:Ds)(bl2:List (Nat×Aj))(n2:Nat):Bool:=
 (PG L o.AX o.n1 bl2 n2&&(leaves c.bl c.n bl2 n2 (Aa bl2 n2)&&(Nat.ble c.n n2&&o.v.within (Ae bl2))))&&
 ((L.rows.all fun p=>Nat.blt p.1 c.np)&&((L.maps.all fun p=>Nat.blt p.1 c.np)&&Nat.ble c.np c.hi))
def Bq.wkd(c:Bq)(L:Iq)(o:Ds)(bl2:List (Nat×Aj))(n2:Nat):Bq:={c with q:=fun U=>c.q U/\L.on U,outs:=[{o with AX:=bl2,n1:=n2}]}
theorem Bq.wk{c:Bq}{L:Iq}{o:Ds}{bl2:List (Nat×Aj)}{n2:Nat}(hc:c.ok W)(ho:c.outs=[o])(hk:wkC L c o bl2 n2=true):(c.wkd L o bl2 n2).ok W:=by
 unfold wkC at hk;simp only[Ah]at hk;obtain⟨⟨k1,k2,k3,k4⟩,k6,k7,k8⟩:=hk;have k3:=AN k3;have k8:=AN k8;intro U hp;have hL:L.on U:=hp.q.2;obtain⟨o',HQ,Y,h1,h2⟩:=hc U ⟨hp.cf,hp.rd,hp.q.1,hp.mp⟩;rw[ho]at HQ;rw[List.mem_singleton.1 HQ]at h2;refine⟨_,List.mem_singleton.2 rfl,Y,h1,fun Uq2 g=>?_⟩;obtain⟨q1,q2⟩:=h2 Uq2 g;have hL2:L.on Uq2:=⟨fun t p hf j c0 a hc0 ha=>by
  have Au:=AF (Bf.1 k6 p (List.mem_of_find?_eq_some hf));have e:=List.find?_some (p:=fun (p:Nat×T A×Nat)=>Nat.beq p.1 t) hf;have e:=beq_eq e;rw[g.r t (by show t<c.hi;omega),h1.r t (by show t<c.np;omega)];exact hL.r t p hf j c0 a hc0 ha,fun t p hf=>by
  have Au:=AF (Bf.1 k7 p (List.mem_of_find?_eq_some hf));have e:=List.find?_some (p:=fun (p:Nat×List ME)=>Nat.beq p.1 t) hf;have e:=beq_eq e;rw[g.m t (by show t<c.hi;omega),h1.m t (by show t<c.np;omega)];exact hL.m t p hf⟩
 refine⟨q1,fun C hC=>?_⟩;obtain⟨q3,q4⟩:=q2 C hC;rw[Ah]at q3;refine⟨by rw[Ah];exact⟨q3.1,k4⟩,fun J w vs hr EU=>?_⟩;refine (q4 J w vs hr EU).mono ?_
 rintro v' w' ⟨Jq1,h,g1,g2,g3,g4⟩
 have hl:=Cw g4;have GB:∀{b t},(Aa bl2 n2).get b ≠ some (.Am t):=by
  intro b t hg;have:=(Lu k1 hg).2.1;cases this
 refine⟨Jq1,Aa bl2 n2,g1,g2.wk2 hL2 hl.get hl.cl hl.next k1,⟨k3,g3.CW,g3.new,g3.size,fun b hb ⟨x,hx,hd⟩=>?_,g3.frame,fun r ⟨b,t,hg,_⟩=>(GB hg).elim,g3.os,g3.tape,g3.output,g3.fz⟩,k2⟩;refine g3.live b hb ?_;rcases (Lu k1 hx).2.2 hd with h'|⟨y,hy,KY⟩
 ·have e1:c.n<=h.next:=g3.next
  have e2:h.next<=o.n1:=hl.next
  have hb:b<c.n:=hb;omega
 ·exact⟨y,hl.get _ (Ad hy),KY⟩
end Eng
namespace Eng
open Go Go.RowKit
variable [AD]
variable {P:Program} {C C':AB} {U U' Y:An} {J J':A1} {W:Wd} {n:Nat}
def Qd(D:Shape)(S:Sb)(h:H):Bool:=D.Du&&(Tw S D.bl D.n h&&(Ae D.bl 0&&D.bl.all fun p=>Fw p.2&&ND h (S.g p.1)))
theorem Tq.HD{D:Shape}{S:Sb}{bl:List (Nat×Aj)}{w:World}(hr:Rel J U C (Aa bl n) w)(hC:C.fu=W.fu)(hk:∀r,U.k r=none)(hs:Qd D S (Aa bl n)=true){ro S0:Nat}(h0:J (S.g 0)=some (ro,S0))(key t o:Nat):
 (Tq.mk (D.Am W (S.sig U)) (S.g 0) (D.bl.map fun p=>S.g p.1) key t o).Du J (Aa bl n) w:=by
 unfold Qd at hs;simp only[Ah]at hs;obtain⟨h1,h2,h3,h4⟩:=hs;have fA:=Dq h2;have hroot:rn J S.g (Ae D.bl) 0=some (ro,S0):=by rw[Ec h3];exact h0
 have r2:=hr.focus fA;refine⟨ro,S0,h0,(Rel.root h1 r2 hroot).cfg hC,fun y hy=>?_,fun b hb=>?_⟩
 ·rcases hy with ⟨b,hb⟩|⟨b,t,hb,_⟩|⟨x,hx⟩
  ·obtain⟨S1,hS⟩:=NR h1 r2 hroot hb;obtain⟨hkD,hS⟩:=Bc hS;obtain⟨p,hp,e⟩:=Ce hkD;exact⟨S.g b,List.mem_map.2 ⟨p,hp,by rw[e]⟩,S1,hS⟩
  ·have:=Bf.1 h4 _ (Ad hb);rw[Ah]at this;cases this.1
  ·have:U.k y=some x:=hx;rw[hk]at this;cases this
 ·obtain⟨p,hp,e⟩:=List.mem_map.1 hb;have:=Bf.1 h4 p hp;rw[Ah]at this;rw[<-e];exact Db this.2
end Eng
end
end
