/- The queue as a thing: has, drop, add and all. No conditions beside those in its theorems. -/
import Derived.Test.YtijplfaplkkpcaaGreatE22
set_option linter.unusedVariables false
set_option linter.unusedSimpArgs false
set_option linter.unusedSectionVars false
set_option linter.constructorNameAsVariable false
set_option maxRecDepth 100000
noncomputable section
namespace V
open Go Eng
variable {U:An}
theorem JZ:Kt [BG Xl 7,(UM.fits Oz&&UM.HO Oz),BW Oz 0 (AG 3 (Fi++[.var 17]) Iz),BW Oz 1 (AG 5 (Fi++[.var 17]) Iz),BG Xl 8,(IW.fits Je&&IW.HO Je),BW Je 0 (AG 3 (Fi++[.var 17]) Iz),BW Je 1 (AG 5 (Fi++[.var 17]) Iz),BW Je 1 (AG 9 (Fi++We 18++[.var 17]) (Iz++q8x 18)),BG Xl 9,(LW.fits Mh&&LW.HO Mh),BW Mh 3 (AG 5 (Fi++[.var 17]) Iz),BW Mh 4 (AG 3 (Fi++[.var 17]) Iz),BW Mh 4 (AG 8 (Fi++We 20++[.var 17]) (Iz++q8x 20)),BG Xl 10,(UL.fits Oy&&UL.HO Oy),BW Oy 0 (AG 10 (Fi++[.lit 0])),BW Oy 1 (AG 10 (Fi++[.var 17]))]=true:=by decide +kernel
theorem kQ:∀B,AD.is IU.kind B↔∃Y,B=IU.D.Am WD Y/\Kn IU.cf IU.rd (fun _=>True) Y IU.mp:=H6 (s:=IU) (by simp[C5]) (Ug 0) (by decide +kernel)
theorem AmY:(UM.Bo WD (fun _=>True) Oz).ok WD:=Ak.Y0 (Bw Vu (Ab JZ (i:=0) rfl)) (Ab JZ (i:=1) rfl) (Nx fun i f o h1 h2 U hp=>by
 obtain⟨Y,p1,p2,p3,p4⟩:=Hh hp;have hx:U 1=Y 17:=p4.v 1 (by decide)
 match i,h1 with
 | 0,h1=>
  cases h1;have k:=in3 (Ba (i:=0) (g:=AG 3 (Fi++[.var 17]) Iz) (Ab JZ (i:=2) rfl) h2 p1);exact .cons (Az (g:=30) (ns:=[.var 1]) (rs:=[]) (ms:=[]) (bs:=[0]) (show ¬CN (U.b 0).sv _ (U 1) from by rw[(JX rfl p2).1,hx];exact k)) .nil
 | 1,h1=>
  cases h1;have k:=in5 (Ba (i:=1) (g:=AG 5 (Fi++[.var 17]) Iz) (Ab JZ (i:=3) rfl) h2 p1);exact .cons (Az (g:=31) (ns:=[.var 1]) (rs:=[]) (ms:=[]) (bs:=[0]) (show CN (U.b 0).sv _ (U 1) from by rw[(JX rfl p2).1,hx];exact k)) .nil
 |n+2,h1=>cases h1) kQ
theorem Ajc:(IW.Bo WD (fun _=>True) Je).ok WD:=Ak.Y0 (Bw Vu (Ab JZ (i:=4) rfl)) (Ab JZ (i:=5) rfl) (Nx fun i f o h1 h2 U hp=>by
 obtain⟨Y,p1,p2,p3,p4⟩:=Hh hp;have hx:U 1=Y 17:=p4.v 1 (by decide)
 match i,h1 with
 | 0,h1=>
  cases h1;have k:=in3 (Ba (i:=0) (g:=AG 3 (Fi++[.var 17]) Iz) (Ab JZ (i:=6) rfl) h2 p1);exact .cons (Az (g:=30) (ns:=[.var 1]) (rs:=[]) (ms:=[]) (bs:=[0]) (show ¬CN (U.b 0).sv _ (U 1) from by rw[(JX rfl p2).1,hx];exact k)) .nil
 | 1,h1=>
  cases h1;have k:=in5 (Ba (i:=1) (g:=AG 5 (Fi++[.var 17]) Iz) (Ab JZ (i:=7) rfl) h2 p1);have k2:=in9 (Ba (i:=1) (g:=AG 9 (Fi++We 18++[.var 17]) (Iz++q8x 18)) (Ab JZ (i:=8) rfl) h2 p1);have C7:=fun x=>Al4 (a:=18) (x:=x) p3 (fun q hq=>by rcases lt8 hq with rfl|rfl|rfl|rfl|rfl|rfl|rfl|rfl<;>exact⟨rfl,rfl⟩)
  refine .cons (Az (g:=31) (ns:=[.var 1]) (rs:=[]) (ms:=[]) (bs:=[0]) (show CN (U.b 0).sv _ (U 1) from by rw[(JX rfl p2).1,hx];exact k)) (.cons (Az (g:=33) (ns:=[.var 1]) (rs:=[]) (ms:=[]) (bs:=[0,2]) (show (∀y,CN (U.b IW.np).sv (fun i=>(U.b IW.np).sr (8+i)) y↔CN (U.b 0).sv (fun i=>(U.b 0).sr (8+i)) y/\y ≠ U 1)/\C4 (U.b IW.np).sv=C4 (U.b 0).sv-1 from ⟨fun y=>?_,?_⟩)) .nil)
  ·rw[(C7 y).1,(JX rfl p2).1,hx];exact k2.1 y
  ·rw[(C7 0).2,(JX (x:=0) rfl p2).2];exact k2.2
 |n+2,h1=>cases h1) kQ
theorem AmW:(LW.Bo WD (fun _=>True) Mh).ok WD:=Ak.Y0 (Bw Vu (Ab JZ (i:=9) rfl)) (Ab JZ (i:=10) rfl) (Nx fun i f o h1 h2 U hp=>by
 obtain⟨Y,p1,p2,p3,p4⟩:=Hh hp;have hx:U 1=Y 17:=p4.v 1 (by decide)
 match i,h1 with
 | 0,h1=>cases h1;exact .nil
 | 1,h1=>cases h1;exact .nil
 | 2,h1=>cases h1;exact .nil
 | 3,h1=>
  cases h1;have k:=in5 (Ba (i:=3) (g:=AG 5 (Fi++[.var 17]) Iz) (Ab JZ (i:=11) rfl) h2 p1);exact .cons (Az (g:=31) (ns:=[.var 1]) (rs:=[]) (ms:=[]) (bs:=[0]) (show CN (U.b 0).sv _ (U 1) from by rw[(JX rfl p2).1,hx];exact k)) .nil
 | 4,h1=>
  cases h1;have k:=in3 (Ba (i:=4) (g:=AG 3 (Fi++[.var 17]) Iz) (Ab JZ (i:=12) rfl) h2 p1);have k2:=in8 (Ba (i:=4) (g:=AG 8 (Fi++We 20++[.var 17]) (Iz++q8x 20)) (Ab JZ (i:=13) rfl) h2 p1);have C7:=fun x=>Al4 (a:=20) (x:=x) p3 (fun q hq=>by rcases lt8 hq with rfl|rfl|rfl|rfl|rfl|rfl|rfl|rfl<;>exact⟨rfl,rfl⟩)
  refine .cons (Az (g:=30) (ns:=[.var 1]) (rs:=[]) (ms:=[]) (bs:=[0]) (show ¬CN (U.b 0).sv _ (U 1) from by rw[(JX rfl p2).1,hx];exact k)) (.cons (Az (g:=32) (ns:=[.var 1]) (rs:=[]) (ms:=[]) (bs:=[0,3]) (show (∀y,CN (U.b LW.np).sv (fun i=>(U.b LW.np).sr (8+i)) y↔CN (U.b 0).sv (fun i=>(U.b 0).sr (8+i)) y\/y=U 1)/\C4 (U.b LW.np).sv=C4 (U.b 0).sv+1 from ⟨fun y=>?_,?_⟩)) .nil)
  ·rw[(C7 y).1,(JX rfl p2).1,hx];exact k2.1 y
  ·rw[(C7 0).2,(JX (x:=0) rfl p2).2];exact k2.2
 |n+5,h1=>cases h1) kQ
theorem AmX:(UL.Bo WD (fun _=>True) Oy).ok WD:=Ak.Y0 (Bw Vu (Ab JZ (i:=14) rfl)) (Ab JZ (i:=15) rfl) (Nx fun i f o h1 h2 U hp=>by
 obtain⟨Y,p1,p2,p3,p4⟩:=Hh hp
 match i,h1 with
 | 0,h1=>
  cases h1;have k:=AqR (Ba (i:=0) (g:=AG 10 (Fi++[.lit 0])) (Ab JZ (i:=16) rfl) h2 p1);exact .cons (Az (g:=34) (ns:=[.lit 0]) (rs:=[]) (ms:=[]) (bs:=[0]) (show (0:Int)=C4 (U.b 0).sv from by rw[(JX (x:=0) rfl p2).2];exact k)) .nil
 | 1,h1=>
  cases h1;have hx:U 2=Y 17:=p4.v 2 (by decide);have k:=AqR (Ba (i:=1) (g:=AG 10 (Fi++[.var 17])) (Ab JZ (i:=17) rfl) h2 p1);exact .cons (Az (g:=34) (ns:=[.var 2]) (rs:=[]) (ms:=[]) (bs:=[0]) (show U 2=C4 (U.b 0).sv from by rw[(JX (x:=0) rfl p2).2,hx];exact k)) .nil
 |n+2,h1=>cases h1) kQ
end V
end
