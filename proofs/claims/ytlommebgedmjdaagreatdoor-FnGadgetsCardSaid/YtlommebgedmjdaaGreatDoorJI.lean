import Derived.Test.YtlommebgedmjdaaGreatDoorJC
import Derived.Test.YtlommebgedmjdaaGreatDoorZ
namespace Go.Proofs.YtlommebgedmjdaaGreatDoor
open Go.Proofs.Tryz
set_option linter.unusedVariables false
open Go.RowKit
section
variable {P:Program} {n:Nat} {X:List Nat} {N:Nat→Prop} {w0:World} {L:List (Nat×Value)} {D:List As} {ρ:Type} {tt:Option ρ} {CC:ρ→Prop}
theorem xCi {i1:Nat} {K2:Act→World→Prop} {Q3:Exit→Act→World→Prop} (h:J n X N w0 L D tt CC (K2)):J n X N w0 L D tt CC (Exit.inBlock i1 (Exit.then K2 Q3) (.exit i1)):=⟨fun a w F H x p q=>(xNo (qS (h.h a w F H x p q)))⟩
theorem vY {i1:Nat} {Q5:Exit→Act→World→Prop} {i2:Nat} {l3:List Oper} {Q4:Exit→Act→World→Prop} (h:J n X N w0 L D tt CC (wpList P l3.toArray Q4 l3)):J n X N w0 L D tt CC (Code.skip.wp P (Exit.inBlock i1 (Exit.then ((Code.region i2 l3.toArray false).wp P Q4) Q5))):=⟨fun a w F H x p q=>(eK (xLn (qS (vL (h.h a w F H x p q)))))⟩
theorem xEh {i1:Nat} {Q6:Exit→Act→World→Prop} {c4:Code} {Q5:Exit→Act→World→Prop} {i2:Nat} {l3:List Oper} (h:J n X N w0 L D tt CC (wpList P l3.toArray (Exit.then (c4.wp P Q5) Q5) l3)):J n X N w0 L D tt CC (Code.skip.wp P (Exit.inBlock i1 (Exit.then ((Code.seq (Code.region i2 l3.toArray false) c4).wp P Q5) Q6))):=⟨fun a w F H x p q=>(eK (xLn (qS (oO (vL (h.h a w F H x p q))))))⟩
theorem xXd {K1:Act→World→Prop} {Q2:Exit→Act→World→Prop} (h:J n X N w0 L D tt CC (K1)):J n X N w0 L D tt CC (Code.skip.wp P (Exit.then K1 Q2)):=⟨fun a w F H x p q=>(eK (qS (h.h a w F H x p q)))⟩
theorem xLu {Q4:Exit→Act→World→Prop} {i1:Nat} {l2:List Oper} {Q3:Exit→Act→World→Prop} (h:J n X N w0 L D tt CC (wpList P l2.toArray Q3 l2)):J n X N w0 L D tt CC (Code.skip.wp P (Exit.then ((Code.region i1 l2.toArray false).wp P Q3) Q4)):=⟨fun a w F H x p q=>(eK (qS (vL (h.h a w F H x p q))))⟩
theorem oAe {Q5:Exit→Act→World→Prop} {i1:Nat} {Q4:Exit→Act→World→Prop} {i2:Nat} {l3:List Oper} (h:J n X N w0 L D tt CC (wpList P l3.toArray (Exit.inBlock i1 Q4) l3)):J n X N w0 L D tt CC (Code.skip.wp P (Exit.then ((Code.block i1 (Code.region i2 l3.toArray false)).wp P Q4) Q5)):=⟨fun a w F H x p q=>(eK (qS (lM (vL (h.h a w F H x p q)))))⟩
theorem xWo {Q6:Exit→Act→World→Prop} {i1:Nat} {Q5:Exit→Act→World→Prop} {c4:Code} {i2:Nat} {l3:List Oper} (h:J n X N w0 L D tt CC (wpList P l3.toArray (Exit.then (c4.wp P (Exit.inBlock i1 Q5)) (Exit.inBlock i1 Q5)) l3)):J n X N w0 L D tt CC (Code.skip.wp P (Exit.then ((Code.block i1 (Code.seq (Code.region i2 l3.toArray false) c4)).wp P Q5) Q6)):=⟨fun a w F H x p q=>(eK (qS (lM (oO (vL (h.h a w F H x p q))))))⟩
theorem qD {Q4:Exit→Act→World→Prop} {c1:Code} {c2:Code} {Q3:Exit→Act→World→Prop} (h:J n X N w0 L D tt CC (c1.wp P (Exit.then (c2.wp P Q3) Q3))):J n X N w0 L D tt CC (Code.skip.wp P (Exit.then ((Code.seq c1 c2).wp P Q3) Q4)):=⟨fun a w F H x p q=>(eK (qS (oO (h.h a w F H x p q))))⟩
theorem oY {Q5:Exit→Act→World→Prop} {c3:Code} {Q4:Exit→Act→World→Prop} {i1:Nat} {l2:List Oper} (h:J n X N w0 L D tt CC (wpList P l2.toArray (Exit.then (c3.wp P Q4) Q4) l2)):J n X N w0 L D tt CC (Code.skip.wp P (Exit.then ((Code.seq (Code.region i1 l2.toArray false) c3).wp P Q4) Q5)):=⟨fun a w F H x p q=>(eK (qS (oO (vL (h.h a w F H x p q)))))⟩
theorem xNm {Q5:Exit→Act→World→Prop} {c3:Code} {Q4:Exit→Act→World→Prop} {i1:Nat} {c2:Code} (h:J n X N w0 L D tt CC (c2.wp P (Exit.inBlock i1 (Exit.then (c3.wp P Q4) Q4)))):J n X N w0 L D tt CC (Code.skip.wp P (Exit.then ((Code.seq (Code.block i1 c2) c3).wp P Q4) Q5)):=⟨fun a w F H x p q=>(eK (qS (oO (lM (h.h a w F H x p q)))))⟩
theorem xWc {Q6:Exit→Act→World→Prop} {c4:Code} {Q5:Exit→Act→World→Prop} {i1:Nat} {i2:Nat} {l3:List Oper} (h:J n X N w0 L D tt CC (wpList P l3.toArray (Exit.inBlock i1 (Exit.then (c4.wp P Q5) Q5)) l3)):J n X N w0 L D tt CC (Code.skip.wp P (Exit.then ((Code.seq (Code.block i1 (Code.region i2 l3.toArray false)) c4).wp P Q5) Q6)):=⟨fun a w F H x p q=>(eK (qS (oO (lM (vL (h.h a w F H x p q))))))⟩
theorem xWj {Q6:Exit→Act→World→Prop} {c4:Code} {Q5:Exit→Act→World→Prop} {i1:Nat} {c2:Code} {c3:Code} (h:J n X N w0 L D tt CC (c2.wp P (Exit.then (c3.wp P (Exit.inBlock i1 (Exit.then (c4.wp P Q5) Q5))) (Exit.inBlock i1 (Exit.then (c4.wp P Q5) Q5))))):J n X N w0 L D tt CC (Code.skip.wp P (Exit.then ((Code.seq (Code.block i1 (Code.seq c2 c3)) c4).wp P Q5) Q6)):=⟨fun a w F H x p q=>(eK (qS (oO (lM (oO (h.h a w F H x p q))))))⟩
theorem rF {Q7:Exit→Act→World→Prop} {c5:Code} {Q6:Exit→Act→World→Prop} {i1:Nat} {c4:Code} {i2:Nat} {l3:List Oper} (h:J n X N w0 L D tt CC (wpList P l3.toArray (Exit.then (c4.wp P (Exit.inBlock i1 (Exit.then (c5.wp P Q6) Q6))) (Exit.inBlock i1 (Exit.then (c5.wp P Q6) Q6))) l3)):J n X N w0 L D tt CC (Code.skip.wp P (Exit.then ((Code.seq (Code.block i1 (Code.seq (Code.region i2 l3.toArray false) c4)) c5).wp P Q6) Q7)):=⟨fun a w F H x p q=>(eK (qS (oO (lM (oO (vL (h.h a w F H x p q)))))))⟩
theorem oAq {Q5:Exit→Act→World→Prop} {c3:Code} {Q4:Exit→Act→World→Prop} {c1:Code} {c2:Code} (h:J n X N w0 L D tt CC (c1.wp P (Exit.then (c2.wp P (Exit.then (c3.wp P Q4) Q4)) (Exit.then (c3.wp P Q4) Q4)))):J n X N w0 L D tt CC (Code.skip.wp P (Exit.then ((Code.seq (Code.seq c1 c2) c3).wp P Q4) Q5)):=⟨fun a w F H x p q=>(eK (qS (oO (oO (h.h a w F H x p q)))))⟩
theorem kZ {Q6:Exit→Act→World→Prop} {c4:Code} {Q5:Exit→Act→World→Prop} {c3:Code} {i1:Nat} {l2:List Oper} (h:J n X N w0 L D tt CC (wpList P l2.toArray (Exit.then (c3.wp P (Exit.then (c4.wp P Q5) Q5)) (Exit.then (c4.wp P Q5) Q5)) l2)):J n X N w0 L D tt CC (Code.skip.wp P (Exit.then ((Code.seq (Code.seq (Code.region i1 l2.toArray false) c3) c4).wp P Q5) Q6)):=⟨fun a w F H x p q=>(eK (qS (oO (oO (vL (h.h a w F H x p q))))))⟩
theorem mU {i1:Nat} {Q5:Exit→Act→World→Prop} {i2:Nat} {l3:List Oper} {Q4:Exit→Act→World→Prop} (h:J n X N w0 L D tt CC (wpList P l3.toArray Q4 l3)):J n X N w0 L D tt CC (Exit.inBlock i1 (Exit.then ((Code.region i2 l3.toArray false).wp P Q4) Q5) .normal):=⟨fun a w F H x p q=>(xLn (qS (vL (h.h a w F H x p q))))⟩
theorem a_R {K1:Act→World→Prop} {Q2:Exit→Act→World→Prop} (h:J n X N w0 L D tt CC (Q2 .ret)):J n X N w0 L D tt CC (Exit.then K1 Q2 .ret):=⟨fun a w F H x p q=>(rB (h.h a w F H x p q))⟩
theorem xSn {o1:Array Oper} {i2:Nat} {K3:Act→World→Prop} {Q4:Exit→Act→World→Prop} (h:J n X N w0 L D tt CC (K3)):J n X N w0 L D tt CC (wpList P o1 (Exit.inBlock i2 (Exit.then K3 Q4)) []):=⟨fun a w F H x p q=>(vM (xLn (qS (h.h a w F H x p q))))⟩
theorem zQ {o1:Array Oper} {i2:Nat} {Q6:Exit→Act→World→Prop} {i3:Nat} {l4:List Oper} {Q5:Exit→Act→World→Prop} (h:J n X N w0 L D tt CC (wpList P l4.toArray Q5 l4)):J n X N w0 L D tt CC (wpList P o1 (Exit.inBlock i2 (Exit.then ((Code.region i3 l4.toArray false).wp P Q5) Q6)) []):=⟨fun a w F H x p q=>(vM (xLn (qS (vL (h.h a w F H x p q)))))⟩
theorem xF {o1:Array Oper} {K2:Act→World→Prop} {Q3:Exit→Act→World→Prop} (h:J n X N w0 L D tt CC (K2)):J n X N w0 L D tt CC (wpList P o1 (Exit.then K2 Q3) []):=⟨fun a w F H x p q=>(vM (qS (h.h a w F H x p q)))⟩
theorem tH {o1:Array Oper} {Q5:Exit→Act→World→Prop} {i2:Nat} {l3:List Oper} {Q4:Exit→Act→World→Prop} (h:J n X N w0 L D tt CC (wpList P l3.toArray Q4 l3)):J n X N w0 L D tt CC (wpList P o1 (Exit.then ((Code.region i2 l3.toArray false).wp P Q4) Q5) []):=⟨fun a w F H x p q=>(vM (qS (vL (h.h a w F H x p q))))⟩
theorem xV {o1:Array Oper} {Q5:Exit→Act→World→Prop} {c2:Code} {c3:Code} {Q4:Exit→Act→World→Prop} (h:J n X N w0 L D tt CC (c2.wp P (Exit.then (c3.wp P Q4) Q4))):J n X N w0 L D tt CC (wpList P o1 (Exit.then ((Code.seq c2 c3).wp P Q4) Q5) []):=⟨fun a w F H x p q=>(vM (qS (oO (h.h a w F H x p q))))⟩
theorem xN {o1:Array Oper} {Q6:Exit→Act→World→Prop} {c4:Code} {Q5:Exit→Act→World→Prop} {i2:Nat} {l3:List Oper} (h:J n X N w0 L D tt CC (wpList P l3.toArray (Exit.then (c4.wp P Q5) Q5) l3)):J n X N w0 L D tt CC (wpList P o1 (Exit.then ((Code.seq (Code.region i2 l3.toArray false) c4).wp P Q5) Q6) []):=⟨fun a w F H x p q=>(vM (qS (oO (vL (h.h a w F H x p q)))))⟩
theorem xFa {o1:Array Oper} {Q8:Exit→Act→World→Prop} {c6:Code} {Q7:Exit→Act→World→Prop} {i2:Nat} {c5:Code} {i3:Nat} {l4:List Oper} (h:J n X N w0 L D tt CC (wpList P l4.toArray (Exit.then (c5.wp P (Exit.inBlock i2 (Exit.then (c6.wp P Q7) Q7))) (Exit.inBlock i2 (Exit.then (c6.wp P Q7) Q7))) l4)):J n X N w0 L D tt CC (wpList P o1 (Exit.then ((Code.seq (Code.block i2 (Code.seq (Code.region i3 l4.toArray false) c5)) c6).wp P Q7) Q8) []):=⟨fun a w F H x p q=>(vM (qS (oO (lM (oO (vL (h.h a w F H x p q)))))))⟩
theorem bS {o1:Array Oper} {Q6:Exit→Act→World→Prop} {c4:Code} {Q5:Exit→Act→World→Prop} {c2:Code} {c3:Code} (h:J n X N w0 L D tt CC (c2.wp P (Exit.then (c3.wp P (Exit.then (c4.wp P Q5) Q5)) (Exit.then (c4.wp P Q5) Q5)))):J n X N w0 L D tt CC (wpList P o1 (Exit.then ((Code.seq (Code.seq c2 c3) c4).wp P Q5) Q6) []):=⟨fun a w F H x p q=>(vM (qS (oO (oO (h.h a w F H x p q)))))⟩
theorem xO {o1:Array Oper} {Q7:Exit→Act→World→Prop} {c5:Code} {Q6:Exit→Act→World→Prop} {c4:Code} {i2:Nat} {l3:List Oper} (h:J n X N w0 L D tt CC (wpList P l3.toArray (Exit.then (c4.wp P (Exit.then (c5.wp P Q6) Q6)) (Exit.then (c5.wp P Q6) Q6)) l3)):J n X N w0 L D tt CC (wpList P o1 (Exit.then ((Code.seq (Code.seq (Code.region i2 l3.toArray false) c4) c5).wp P Q6) Q7) []):=⟨fun a w F H x p q=>(vM (qS (oO (oO (vL (h.h a w F H x p q))))))⟩
theorem xP {o1:Array Oper} {Q3:Exit→Act→World→Prop} {Q2:Exit→Act→World→Prop} (h:J n X N w0 L D tt CC (Q2 .ret)):J n X N w0 L D tt CC (wpList P o1 (Exit.then (Code.ret.wp P Q2) Q3) []):=⟨fun a w F H x p q=>(vM (qS (mN (h.h a w F H x p q))))⟩
theorem xT {o1:Array Oper} {Q4:Exit→Act→World→Prop} {K2:Act→World→Prop} {Q3:Exit→Act→World→Prop} (h:J n X N w0 L D tt CC (Q3 .ret)):J n X N w0 L D tt CC (wpList P o1 (Exit.then (Code.ret.wp P (Exit.then K2 Q3)) Q4) []):=⟨fun a w F H x p q=>(vM (qS (mN (rB (h.h a w F H x p q)))))⟩
theorem xWd {o1:Array Oper} {Q5:Exit→Act→World→Prop} {K2:Act→World→Prop} {K3:Act→World→Prop} {Q4:Exit→Act→World→Prop} (h:J n X N w0 L D tt CC (Q4 .ret)):J n X N w0 L D tt CC (wpList P o1 (Exit.then (Code.ret.wp P (Exit.then K2 (Exit.then K3 Q4))) Q5) []):=⟨fun a w F H x p q=>(vM (qS (mN (rB (rB (h.h a w F H x p q))))))⟩
theorem pF {o1:Array Oper} {Q7:Exit→Act→World→Prop} {K2:Act→World→Prop} {i3:Nat} {K4:Act→World→Prop} {K5:Act→World→Prop} {Q6:Exit→Act→World→Prop} (h:J n X N w0 L D tt CC (Q6 .ret)):J n X N w0 L D tt CC (wpList P o1 (Exit.then (Code.ret.wp P (Exit.then K2 (Exit.inBlock i3 (Exit.then K4 (Exit.then K5 Q6))))) Q7) []):=⟨fun a w F H x p q=>(vM (qS (mN (rB (xLp (rB (rB (h.h a w F H x p q))))))))⟩
theorem nR {o1:Array Oper} {Q5:Exit→Act→World→Prop} {i2:Nat} {K3:Act→World→Prop} {Q4:Exit→Act→World→Prop} (h:J n X N w0 L D tt CC (Q4 .ret)):J n X N w0 L D tt CC (wpList P o1 (Exit.then (Code.ret.wp P (Exit.inBlock i2 (Exit.then K3 Q4))) Q5) []):=⟨fun a w F H x p q=>(vM (qS (mN (xLp (rB (h.h a w F H x p q))))))⟩
theorem vE {o1:Array Oper} {Q6:Exit→Act→World→Prop} {i2:Nat} {K3:Act→World→Prop} {K4:Act→World→Prop} {Q5:Exit→Act→World→Prop} (h:J n X N w0 L D tt CC (Q5 .ret)):J n X N w0 L D tt CC (wpList P o1 (Exit.then (Code.ret.wp P (Exit.inBlock i2 (Exit.then K3 (Exit.then K4 Q5)))) Q6) []):=⟨fun a w F H x p q=>(vM (qS (mN (xLp (rB (rB (h.h a w F H x p q)))))))⟩
theorem a_g {i1:Nat} {l2:List Oper} {Q3:Exit→Act→World→Prop} (h:J n X N w0 L D tt CC (wpList P l2.toArray Q3 l2)):J n X N w0 L D tt CC ((Code.region i1 l2.toArray false).wp P Q3):=⟨fun a w F H x p q=>(vL (h.h a w F H x p q))⟩
theorem eD {i1:Nat} {c2:Code} {Q3:Exit→Act→World→Prop} (h:J n X N w0 L D tt CC (c2.wp P (Exit.inBlock i1 Q3))):J n X N w0 L D tt CC ((Code.block i1 c2).wp P Q3):=⟨fun a w F H x p q=>(lM (h.h a w F H x p q))⟩
theorem xJr {i1:Nat} {Q4:Exit→Act→World→Prop} {i2:Nat} {l3:List Oper} (h:J n X N w0 L D tt CC (wpList P l3.toArray (Exit.inBlock i1 Q4) l3)):J n X N w0 L D tt CC ((Code.block i1 (Code.region i2 l3.toArray false)).wp P Q4):=⟨fun a w F H x p q=>(lM (vL (h.h a w F H x p q)))⟩
theorem xDs {i1:Nat} {Q4:Exit→Act→World→Prop} {c2:Code} {c3:Code} (h:J n X N w0 L D tt CC (c2.wp P (Exit.then (c3.wp P (Exit.inBlock i1 Q4)) (Exit.inBlock i1 Q4)))):J n X N w0 L D tt CC ((Code.block i1 (Code.seq c2 c3)).wp P Q4):=⟨fun a w F H x p q=>(lM (oO (h.h a w F H x p q)))⟩
theorem kE {i1:Nat} {Q5:Exit→Act→World→Prop} {c4:Code} {i2:Nat} {l3:List Oper} (h:J n X N w0 L D tt CC (wpList P l3.toArray (Exit.then (c4.wp P (Exit.inBlock i1 Q5)) (Exit.inBlock i1 Q5)) l3)):J n X N w0 L D tt CC ((Code.block i1 (Code.seq (Code.region i2 l3.toArray false) c4)).wp P Q5):=⟨fun a w F H x p q=>(lM (oO (vL (h.h a w F H x p q))))⟩
theorem xXt {i1:Nat} {Q5:Exit→Act→World→Prop} {c4:Code} {c2:Code} {c3:Code} (h:J n X N w0 L D tt CC (c2.wp P (Exit.then (c3.wp P (Exit.then (c4.wp P (Exit.inBlock i1 Q5)) (Exit.inBlock i1 Q5))) (Exit.then (c4.wp P (Exit.inBlock i1 Q5)) (Exit.inBlock i1 Q5))))):J n X N w0 L D tt CC ((Code.block i1 (Code.seq (Code.seq c2 c3) c4)).wp P Q5):=⟨fun a w F H x p q=>(lM (oO (oO (h.h a w F H x p q))))⟩
theorem xYp {i1:Nat} {Q6:Exit→Act→World→Prop} {c5:Code} {c4:Code} {i2:Nat} {l3:List Oper} (h:J n X N w0 L D tt CC (wpList P l3.toArray (Exit.then (c4.wp P (Exit.then (c5.wp P (Exit.inBlock i1 Q6)) (Exit.inBlock i1 Q6))) (Exit.then (c5.wp P (Exit.inBlock i1 Q6)) (Exit.inBlock i1 Q6))) l3)):J n X N w0 L D tt CC ((Code.block i1 (Code.seq (Code.seq (Code.region i2 l3.toArray false) c4) c5)).wp P Q6):=⟨fun a w F H x p q=>(lM (oO (oO (vL (h.h a w F H x p q)))))⟩
theorem dI {K1:Act→World→Prop} {Q2:Exit→Act→World→Prop} (h:J n X N w0 L D tt CC (K1)):J n X N w0 L D tt CC (Exit.then K1 Q2 .normal):=⟨fun a w F H x p q=>(qS (h.h a w F H x p q))⟩
theorem xQp {Q4:Exit→Act→World→Prop} {i1:Nat} {l2:List Oper} {Q3:Exit→Act→World→Prop} (h:J n X N w0 L D tt CC (wpList P l2.toArray Q3 l2)):J n X N w0 L D tt CC (Exit.then ((Code.region i1 l2.toArray false).wp P Q3) Q4 .normal):=⟨fun a w F H x p q=>(qS (vL (h.h a w F H x p q)))⟩
theorem xQx {Q4:Exit→Act→World→Prop} {c1:Code} {c2:Code} {Q3:Exit→Act→World→Prop} (h:J n X N w0 L D tt CC (c1.wp P (Exit.then (c2.wp P Q3) Q3))):J n X N w0 L D tt CC (Exit.then ((Code.seq c1 c2).wp P Q3) Q4 .normal):=⟨fun a w F H x p q=>(qS (oO (h.h a w F H x p q)))⟩
theorem qQ {Q5:Exit→Act→World→Prop} {c3:Code} {Q4:Exit→Act→World→Prop} {i1:Nat} {l2:List Oper} (h:J n X N w0 L D tt CC (wpList P l2.toArray (Exit.then (c3.wp P Q4) Q4) l2)):J n X N w0 L D tt CC (Exit.then ((Code.seq (Code.region i1 l2.toArray false) c3).wp P Q4) Q5 .normal):=⟨fun a w F H x p q=>(qS (oO (vL (h.h a w F H x p q))))⟩
theorem xPk {Q5:Exit→Act→World→Prop} {c3:Code} {Q4:Exit→Act→World→Prop} {c1:Code} {c2:Code} (h:J n X N w0 L D tt CC (c1.wp P (Exit.then (c2.wp P (Exit.then (c3.wp P Q4) Q4)) (Exit.then (c3.wp P Q4) Q4)))):J n X N w0 L D tt CC (Exit.then ((Code.seq (Code.seq c1 c2) c3).wp P Q4) Q5 .normal):=⟨fun a w F H x p q=>(qS (oO (oO (h.h a w F H x p q))))⟩
theorem sQ {Q6:Exit→Act→World→Prop} {c4:Code} {Q5:Exit→Act→World→Prop} {c3:Code} {i1:Nat} {l2:List Oper} (h:J n X N w0 L D tt CC (wpList P l2.toArray (Exit.then (c3.wp P (Exit.then (c4.wp P Q5) Q5)) (Exit.then (c4.wp P Q5) Q5)) l2)):J n X N w0 L D tt CC (Exit.then ((Code.seq (Code.seq (Code.region i1 l2.toArray false) c3) c4).wp P Q5) Q6 .normal):=⟨fun a w F H x p q=>(qS (oO (oO (vL (h.h a w F H x p q)))))⟩
theorem jY {Q2:Exit→Act→World→Prop} {Q1:Exit→Act→World→Prop} (h:J n X N w0 L D tt CC (Q1 .ret)):J n X N w0 L D tt CC (Exit.then (Code.ret.wp P Q1) Q2 .normal):=⟨fun a w F H x p q=>(qS (mN (h.h a w F H x p q)))⟩
theorem xRw {Q3:Exit→Act→World→Prop} {K1:Act→World→Prop} {Q2:Exit→Act→World→Prop} (h:J n X N w0 L D tt CC (Q2 .ret)):J n X N w0 L D tt CC (Exit.then (Code.ret.wp P (Exit.then K1 Q2)) Q3 .normal):=⟨fun a w F H x p q=>(qS (mN (rB (h.h a w F H x p q))))⟩
theorem xJv {Q5:Exit→Act→World→Prop} {i1:Nat} {K2:Act→World→Prop} {K3:Act→World→Prop} {Q4:Exit→Act→World→Prop} (h:J n X N w0 L D tt CC (Q4 .ret)):J n X N w0 L D tt CC (Exit.then (Code.ret.wp P (Exit.inBlock i1 (Exit.then K2 (Exit.then K3 Q4)))) Q5 .normal):=⟨fun a w F H x p q=>(qS (mN (xLp (rB (rB (h.h a w F H x p q))))))⟩
theorem xUs {Q7:Exit→Act→World→Prop} {K2:Act→World→Prop} {i1:Nat} {Q6:Exit→Act→World→Prop} {i3:Nat} {l4:List Oper} {Q5:Exit→Act→World→Prop} (h:J n X N w0 L D tt CC (wpList P l4.toArray Q5 l4)):J n X N w0 L D tt CC (Exit.then ((Code.exit i1).wp P (Exit.then K2 (Exit.inBlock i1 (Exit.then ((Code.region i3 l4.toArray false).wp P Q5) Q6)))) Q7 .normal):=⟨fun a w F H x p q=>(qS (yC (xEb (xNo (qS (vL (h.h a w F H x p q)))))))⟩
theorem eX {i1:Nat} {K2:Act→World→Prop} {Q3:Exit→Act→World→Prop} (h:J n X N w0 L D tt CC (Q3 .ret)):J n X N w0 L D tt CC (Exit.inBlock i1 (Exit.then K2 Q3) .ret):=⟨fun a w F H x p q=>(xLp (rB (h.h a w F H x p q)))⟩
theorem a_s {c1:Code} {c2:Code} {Q3:Exit→Act→World→Prop} (h:J n X N w0 L D tt CC (c1.wp P (Exit.then (c2.wp P Q3) Q3))):J n X N w0 L D tt CC ((Code.seq c1 c2).wp P Q3):=⟨fun a w F H x p q=>(oO (h.h a w F H x p q))⟩
theorem xL {c3:Code} {Q4:Exit→Act→World→Prop} {i1:Nat} {l2:List Oper} (h:J n X N w0 L D tt CC (wpList P l2.toArray (Exit.then (c3.wp P Q4) Q4) l2)):J n X N w0 L D tt CC ((Code.seq (Code.region i1 l2.toArray false) c3).wp P Q4):=⟨fun a w F H x p q=>(oO (vL (h.h a w F H x p q)))⟩
theorem xZr {c3:Code} {Q4:Exit→Act→World→Prop} {c1:Code} {c2:Code} (h:J n X N w0 L D tt CC (c1.wp P (Exit.then (c2.wp P (Exit.then (c3.wp P Q4) Q4)) (Exit.then (c3.wp P Q4) Q4)))):J n X N w0 L D tt CC ((Code.seq (Code.seq c1 c2) c3).wp P Q4):=⟨fun a w F H x p q=>(oO (oO (h.h a w F H x p q)))⟩
theorem oH {c4:Code} {Q5:Exit→Act→World→Prop} {c3:Code} {i1:Nat} {l2:List Oper} (h:J n X N w0 L D tt CC (wpList P l2.toArray (Exit.then (c3.wp P (Exit.then (c4.wp P Q5) Q5)) (Exit.then (c4.wp P Q5) Q5)) l2)):J n X N w0 L D tt CC ((Code.seq (Code.seq (Code.region i1 l2.toArray false) c3) c4).wp P Q5):=⟨fun a w F H x p q=>(oO (oO (vL (h.h a w F H x p q))))⟩
theorem xWx {K1:Act→World→Prop} {i2:Nat} {K3:Act→World→Prop} {K4:Act→World→Prop} {Q5:Exit→Act→World→Prop} (h:J n X N w0 L D tt CC (Q5 .ret)):J n X N w0 L D tt CC (Code.ret.wp P (Exit.then K1 (Exit.inBlock i2 (Exit.then K3 (Exit.then K4 Q5))))):=⟨fun a w F H x p q=>(mN (rB (xLp (rB (rB (h.h a w F H x p q))))))⟩
theorem xAg {K2:Act→World→Prop} {i1:Nat} {Q6:Exit→Act→World→Prop} {i3:Nat} {l4:List Oper} {Q5:Exit→Act→World→Prop} (h:J n X N w0 L D tt CC (wpList P l4.toArray Q5 l4)):J n X N w0 L D tt CC ((Code.exit i1).wp P (Exit.then K2 (Exit.inBlock i1 (Exit.then ((Code.region i3 l4.toArray false).wp P Q5) Q6)))):=⟨fun a w F H x p q=>(yC (xEb (xNo (qS (vL (h.h a w F H x p q))))))⟩
theorem sI {K2:Act→World→Prop} {K3:Act→World→Prop} {Q4:Exit→Act→World→Prop} {i1:Nat} (h:J n X N w0 L D tt CC (Q4 (.exit i1))):J n X N w0 L D tt CC ((Code.exit i1).wp P (Exit.then K2 (Exit.then K3 Q4))):=⟨fun a w F H x p q=>(yC (xEb (xEb (h.h a w F H x p q))))⟩
theorem xS {K2:Act→World→Prop} {K3:Act→World→Prop} {i1:Nat} {K4:Act→World→Prop} {Q5:Exit→Act→World→Prop} (h:J n X N w0 L D tt CC (K4)):J n X N w0 L D tt CC ((Code.exit i1).wp P (Exit.then K2 (Exit.then K3 (Exit.inBlock i1 (Exit.then K4 Q5))))):=⟨fun a w F H x p q=>(yC (xEb (xEb (xNo (qS (h.h a w F H x p q))))))⟩
theorem a_z {fn1:Func} {R2:Ending→World→Prop} (h:J n X N w0 L D tt CC (bodyPost P fn1 R2 .ret)):J n X N w0 L D tt CC (bodyPost P fn1 R2 .normal):=⟨fun a w F H x p q=>(xYb (h.h a w F H x p q))⟩
end
end Go.Proofs.YtlommebgedmjdaaGreatDoor
namespace Go.Proofs.YtlommebgedmjdaaGreatDoor
open Go.Proofs.Tryz
set_option maxRecDepth 100000
instance:Mo Tryz.prog:=⟨by kernel_rfl⟩
instance:type_of% (Ug.mk underlying2):=⟨underlying2⟩
instance:type_of% (Ug.mk underlying3):=⟨underlying3⟩
instance:type_of% (Ug.mk underlying4):=⟨underlying4⟩
instance:type_of% (Ug.mk underlying5):=⟨underlying5⟩
instance:type_of% (Ug.mk underlying9):=⟨underlying9⟩
instance:Ug Tryz.prog 22 (.slice 5):=⟨underlying22⟩
instance:Ug Tryz.prog 24 (.slice 108):=⟨underlying24⟩
instance:Ug Tryz.prog 28 (.slice 72):=⟨underlying28⟩
instance:Ug Tryz.prog 36 (.slice 2):=⟨underlying36⟩
instance:Ug Tryz.prog 41 (.slice 134):=⟨underlying41⟩
instance:Ug Tryz.prog 57 (.slice 36):=⟨underlying57⟩
instance:Ug Tryz.prog 67 (.slice 9):=⟨underlying67⟩
instance:Ug Tryz.prog 70 (.slice 120):=⟨underlying70⟩
instance:type_of% (Ug.mk underlying111):=⟨underlying111⟩
instance:type_of% (Ug.mk underlying163):=⟨underlying163⟩
instance:Ug Tryz.prog 210 (.slice 70):=⟨underlying210⟩
instance:Sz Tryz.prog 2 1:=⟨sizeOf2⟩
instance:Sz Tryz.prog 3 1:=⟨sizeOf3⟩
instance:Sz Tryz.prog 5 1:=⟨sizeOf5⟩
instance:Sz Tryz.prog 9 1:=⟨sizeOf9⟩
instance:Sz Tryz.prog 22 1:=⟨sizeOf22⟩
instance:Sz Tryz.prog 24 1:=⟨sizeOf24⟩
instance:Sz Tryz.prog 26 2:=⟨sizeOf26⟩
instance:Sz Tryz.prog 28 1:=⟨sizeOf28⟩
instance:Sz Tryz.prog 30 1:=⟨sizeOf30⟩
instance:Sz Tryz.prog 36 1:=⟨sizeOf36⟩
instance:Sz Tryz.prog 41 1:=⟨sizeOf41⟩
instance:Sz Tryz.prog 43 2:=⟨sizeOf43⟩
instance:Sz Tryz.prog 57 1:=⟨sizeOf57⟩
instance:Sz Tryz.prog 66 1:=⟨sizeOf66⟩
instance:Sz Tryz.prog 70 1:=⟨sizeOf70⟩
instance:Sz Tryz.prog 72 3:=⟨sizeOf72⟩
instance:Sz Tryz.prog 87 1:=⟨sizeOf87⟩
instance:Sz Tryz.prog 102 1:=⟨sizeOf102⟩
instance:Sz Tryz.prog 108 2:=⟨sizeOf108⟩
instance:Sz Tryz.prog 111 1:=⟨sizeOf111⟩
instance:Sz Tryz.prog 120 2:=⟨sizeOf120⟩
instance:Sz Tryz.prog 134 2:=⟨sizeOf134⟩
instance:Ag Tryz.prog 2 false:=⟨isAgg2⟩
instance:Ag Tryz.prog 3 false:=⟨isAgg3⟩
instance:Ag Tryz.prog 5 false:=⟨isAgg5⟩
instance:Ag Tryz.prog 9 false:=⟨isAgg9⟩
instance:Ag Tryz.prog 22 false:=⟨isAgg22⟩
instance:Ag Tryz.prog 24 false:=⟨isAgg24⟩
instance:Ag Tryz.prog 26 true:=⟨isAgg26⟩
instance:Ag Tryz.prog 28 false:=⟨isAgg28⟩
instance:Ag Tryz.prog 30 true:=⟨isAgg30⟩
instance:Ag Tryz.prog 36 false:=⟨isAgg36⟩
instance:Ag Tryz.prog 41 false:=⟨isAgg41⟩
instance:Ag Tryz.prog 43 true:=⟨isAgg43⟩
instance:Ag Tryz.prog 57 false:=⟨isAgg57⟩
instance:Ag Tryz.prog 66 false:=⟨isAgg66⟩
instance:Ag Tryz.prog 70 false:=⟨isAgg70⟩
instance:Ag Tryz.prog 72 true:=⟨isAgg72⟩
instance:Ag Tryz.prog 87 false:=⟨isAgg87⟩
instance:Ag Tryz.prog 102 false:=⟨isAgg102⟩
instance:Ag Tryz.prog 108 true:=⟨isAgg108⟩
instance:Ag Tryz.prog 111 false:=⟨isAgg111⟩
instance:Ag Tryz.prog 120 true:=⟨isAgg120⟩
instance:Ag Tryz.prog 134 true:=⟨isAgg134⟩
instance:Ag Tryz.prog 210 false:=⟨isAgg210⟩
instance:type_of% (Zv.mk zeroValue2):=⟨zeroValue2⟩
instance:type_of% (Zv.mk zeroValue3):=⟨zeroValue3⟩
instance:type_of% (Zv.mk zeroValue9):=⟨zeroValue9⟩
instance:type_of% (Zv.mk zeroValue26):=⟨zeroValue26⟩
instance:type_of% (Zv.mk zeroValue30):=⟨zeroValue30⟩
instance:type_of% (Zv.mk zeroValue36):=⟨zeroValue36⟩
instance:type_of% (Zv.mk zeroValue43):=⟨zeroValue43⟩
instance:type_of% (Zv.mk zeroValue72):=⟨zeroValue72⟩
instance:type_of% (Zv.mk zeroValue102):=⟨zeroValue102⟩
instance:type_of% (Zv.mk zeroValue108):=⟨zeroValue108⟩
instance:type_of% (Zv.mk zeroValue113):=⟨zeroValue113⟩
instance:type_of% (Zv.mk zeroValue120):=⟨zeroValue120⟩
instance:type_of% (Zv.mk zeroValue134):=⟨zeroValue134⟩
instance:type_of% (Zv.mk zeroValue155):=⟨zeroValue155⟩
instance:If Tryz.prog 2 (.int .i64 0) 1 8:=⟨by kernel_rfl⟩
instance:If Tryz.prog 5 (.int .u8 0) 1 1:=⟨by kernel_rfl⟩
instance:If Tryz.prog 9 (.string ByteArray.empty) 1 16:=⟨by kernel_rfl⟩
instance:If Tryz.prog 36 ((.slice none 0 0)) 1 24:=⟨by kernel_rfl⟩
instance:If Tryz.prog 70 ((.slice none 0 0)) 1 24:=⟨by kernel_rfl⟩
instance:If Tryz.prog 72 (.agg #[.int .i64 0,.int .i64 0,(.slice none 0 0)]) 3 40:=⟨by kernel_rfl⟩
instance:If Tryz.prog 108 (.agg #[.int .i64 0,(.slice none 0 0)]) 2 32:=⟨by kernel_rfl⟩
instance:If Tryz.prog 120 (.agg #[.int .i64 0,(.slice none 0 0)]) 2 32:=⟨by kernel_rfl⟩
instance:If Tryz.prog 134 (.agg #[.int .i64 0,(.slice none 0 0)]) 2 32:=⟨by kernel_rfl⟩
instance:Fd Tryz.prog 26 0 0:=⟨xUn⟩
instance:Fd Tryz.prog 26 1 1:=⟨xZz⟩
instance:Fd Tryz.prog 30 0 0:=⟨xYd⟩
instance:Fd Tryz.prog 43 0 0:=⟨xZi⟩
instance:Fd Tryz.prog 43 1 1:=⟨xZj⟩
instance:Fd Tryz.prog 72 0 0:=⟨oAf⟩
instance:Fd Tryz.prog 72 1 1:=⟨xZu⟩
instance:Fd Tryz.prog 72 2 2:=⟨xXy⟩
instance:Fd Tryz.prog 108 0 0:=⟨xWp⟩
instance:Fd Tryz.prog 108 1 1:=⟨xVi⟩
instance:Fd Tryz.prog 113 0 0:=⟨xVu⟩
instance:Fd Tryz.prog 113 1 1:=⟨xVd⟩
instance:Fd Tryz.prog 113 2 2:=⟨xVv⟩
instance:Fd Tryz.prog 120 0 0:=⟨xWa⟩
instance:Fd Tryz.prog 120 1 1:=⟨xOg⟩
instance:Fd Tryz.prog 134 0 0:=⟨xVm⟩
instance:Fd Tryz.prog 134 1 1:=⟨xVq⟩
instance:Fd Tryz.prog 155 0 0:=⟨xVy⟩
instance:Fd Tryz.prog 155 1 1:=⟨xWk⟩
instance:Fd Tryz.prog 155 2 2:=⟨xVs⟩
instance:Fd Tryz.prog 155 3 3:=⟨xVk⟩
instance:Fd Tryz.prog 155 4 4:=⟨xXf⟩
instance:Fd Tryz.prog 212 0 0:=⟨xNy⟩
instance:Fd Tryz.prog 212 2 3:=⟨xIu⟩
instance:Cf Tryz.prog 4:=⟨call4⟩
instance:Cf Tryz.prog 5:=⟨call5⟩
instance:Cf Tryz.prog 6:=⟨call6⟩
instance:Cf Tryz.prog 7:=⟨call7⟩
instance:Cf Tryz.prog 8:=⟨call8⟩
instance:Cf Tryz.prog 9:=⟨call9⟩
instance:Cf Tryz.prog 10:=⟨call10⟩
instance:Cf Tryz.prog 11:=⟨call11⟩
instance:Cf Tryz.prog 12:=⟨call12⟩
instance:Cf Tryz.prog 13:=⟨call13⟩
instance:Cf Tryz.prog 14:=⟨call14⟩
instance:Cf Tryz.prog 15:=⟨call15⟩
instance:Cf Tryz.prog 16:=⟨call16⟩
instance:Cf Tryz.prog 17:=⟨call17⟩
instance:Cf Tryz.prog 18:=⟨call18⟩
instance:Cf Tryz.prog 19:=⟨call19⟩
instance:Cf Tryz.prog 20:=⟨call20⟩
instance:Cf Tryz.prog 21:=⟨call21⟩
instance:Cf Tryz.prog 22:=⟨call22⟩
instance:Cf Tryz.prog 23:=⟨call23⟩
instance:Cf Tryz.prog 24:=⟨call24⟩
instance:Cf Tryz.prog 25:=⟨call25⟩
instance:Cf Tryz.prog 26:=⟨call26⟩
instance:Cf Tryz.prog 27:=⟨call27⟩
instance:Cf Tryz.prog 28:=⟨call28⟩
instance:Cf Tryz.prog 29:=⟨call29⟩
instance:Cf Tryz.prog 30:=⟨call30⟩
instance:Cf Tryz.prog 31:=⟨call31⟩
instance:Cf Tryz.prog 32:=⟨call32⟩
instance:Cf Tryz.prog 33:=⟨call33⟩
instance:Cf Tryz.prog 34:=⟨call34⟩
instance:Cf Tryz.prog 35:=⟨call35⟩
instance:Cf Tryz.prog 36:=⟨call36⟩
instance:Cf Tryz.prog 37:=⟨call37⟩
instance:Cf Tryz.prog 38:=⟨call38⟩
instance:Cf Tryz.prog 39:=⟨call39⟩
instance:Cf Tryz.prog 40:=⟨call40⟩
instance:Cf Tryz.prog 42:=⟨call42⟩
instance:Cf Tryz.prog 43:=⟨call43⟩
instance:Cf Tryz.prog 44:=⟨call44⟩
instance:Cf Tryz.prog 45:=⟨call45⟩
instance:Cf Tryz.prog 46:=⟨call46⟩
instance:Cf Tryz.prog 47:=⟨call47⟩
instance:Cf Tryz.prog 48:=⟨call48⟩
instance:Cf Tryz.prog 49:=⟨call49⟩
instance:Cf Tryz.prog 50:=⟨call50⟩
instance:Cf Tryz.prog 51:=⟨call51⟩
instance:Cf Tryz.prog 52:=⟨call52⟩
instance:Cf Tryz.prog 53:=⟨call53⟩
instance:Cf Tryz.prog 54:=⟨call54⟩
instance:Cf Tryz.prog 55:=⟨call55⟩
instance:Cf Tryz.prog 56:=⟨call56⟩
instance:Cf Tryz.prog 57:=⟨call57⟩
instance:Cf Tryz.prog 58:=⟨call58⟩
instance:Cf Tryz.prog 59:=⟨call59⟩
instance:Cf Tryz.prog 60:=⟨call60⟩
instance:Cf Tryz.prog 61:=⟨call61⟩
instance:Cf Tryz.prog 62:=⟨call62⟩
instance:Cf Tryz.prog 63:=⟨call63⟩
instance:Cf Tryz.prog 64:=⟨call64⟩
instance:Cf Tryz.prog 65:=⟨call65⟩
instance:Cf Tryz.prog 66:=⟨call66⟩
instance:Cf Tryz.prog 67:=⟨call67⟩
instance:Cf Tryz.prog 68:=⟨call68⟩
instance:Cf Tryz.prog 69:=⟨call69⟩
instance:Cf Tryz.prog 70:=⟨call70⟩
instance:Cf Tryz.prog 71:=⟨call71⟩
instance:Cf Tryz.prog 73:=⟨call73⟩
instance:Cf Tryz.prog 74:=⟨call74⟩
instance:Cf Tryz.prog 75:=⟨call75⟩
instance:Cf Tryz.prog 76:=⟨call76⟩
instance:Cf Tryz.prog 77:=⟨call77⟩
instance:Cf Tryz.prog 78:=⟨call78⟩
instance:Cf Tryz.prog 79:=⟨call79⟩
instance:Cf Tryz.prog 80:=⟨call80⟩
instance:Cf Tryz.prog 81:=⟨call81⟩
instance:Cf Tryz.prog 82:=⟨call82⟩
instance:Cf Tryz.prog 84:=⟨call84⟩
instance:Cf Tryz.prog 85:=⟨call85⟩
instance:Cf Tryz.prog 86:=⟨call86⟩
instance:Cf Tryz.prog 88:=⟨call88⟩
instance:Cf Tryz.prog 89:=⟨call89⟩
instance:Cf Tryz.prog 90:=⟨call90⟩
instance:Cf Tryz.prog 92:=⟨call92⟩
instance:Cf Tryz.prog 93:=⟨call93⟩
instance:Cf Tryz.prog 94:=⟨call94⟩
instance:Cf Tryz.prog 95:=⟨call95⟩
instance:Cf Tryz.prog 96:=⟨call96⟩
instance:Cf Tryz.prog 97:=⟨call97⟩
instance:Cf Tryz.prog 98:=⟨call98⟩
instance:Cf Tryz.prog 99:=⟨call99⟩
instance:Cf Tryz.prog 100:=⟨call100⟩
instance:Cf Tryz.prog 101:=⟨call101⟩
instance:Cf Tryz.prog 102:=⟨call102⟩
instance:Cf Tryz.prog 104:=⟨call104⟩
instance:Cf Tryz.prog 105:=⟨call105⟩
instance:Cf Tryz.prog 108:=⟨call108⟩
instance:Cf Tryz.prog 109:=⟨call109⟩
instance:Cf Tryz.prog 110:=⟨call110⟩
instance:Cf Tryz.prog 111:=⟨call111⟩
instance:Cf Tryz.prog 112:=⟨call112⟩
instance:Cf Tryz.prog 113:=⟨call113⟩
instance:Cf Tryz.prog 114:=⟨call114⟩
instance:Cf Tryz.prog 116:=⟨call116⟩
instance:Cf Tryz.prog 117:=⟨call117⟩
instance:Cf Tryz.prog 119:=⟨call119⟩
instance:Cf Tryz.prog 120:=⟨call120⟩
instance:Cf Tryz.prog 122:=⟨call122⟩
instance:Cf Tryz.prog 123:=⟨call123⟩
instance:Cf Tryz.prog 124:=⟨call124⟩
instance:Cf Tryz.prog 126:=⟨call126⟩
instance:Cf Tryz.prog 127:=⟨call127⟩
instance:Cf Tryz.prog 128:=⟨call128⟩
instance:Cf Tryz.prog 129:=⟨call129⟩
instance:Cf Tryz.prog 130:=⟨call130⟩
instance:Cf Tryz.prog 131:=⟨call131⟩
instance:Cf Tryz.prog 135:=⟨call135⟩
instance:Cf Tryz.prog 136:=⟨call136⟩
instance:Cf Tryz.prog 137:=⟨call137⟩
instance:Cf Tryz.prog 138:=⟨call138⟩
instance:Cf Tryz.prog 139:=⟨call139⟩
instance:Cf Tryz.prog 140:=⟨call140⟩
instance:Cf Tryz.prog 141:=⟨call141⟩
instance:Cf Tryz.prog 143:=⟨call143⟩
instance:Cf Tryz.prog 144:=⟨call144⟩
instance:Cf Tryz.prog 145:=⟨call145⟩
instance:Cf Tryz.prog 150:=⟨call150⟩
instance:Cf Tryz.prog 152:=⟨call152⟩
instance:Cf Tryz.prog 153:=⟨call153⟩
instance:Cf Tryz.prog 154:=⟨call154⟩
instance:Cf Tryz.prog 156:=⟨call156⟩
instance:Cf Tryz.prog 157:=⟨call157⟩
instance:Cf Tryz.prog 158:=⟨call158⟩
instance:Cf Tryz.prog 159:=⟨call159⟩
instance:Cf Tryz.prog 160:=⟨call160⟩
instance:Cf Tryz.prog 162:=⟨call162⟩
instance:Cf Tryz.prog 163:=⟨call163⟩
instance:Cf Tryz.prog 164:=⟨call164⟩
instance:Cf Tryz.prog 165:=⟨call165⟩
instance:Cf Tryz.prog 166:=⟨call166⟩
instance:Cf Tryz.prog 167:=⟨call167⟩
instance:Cf Tryz.prog 168:=⟨call168⟩
instance:Cf Tryz.prog 169:=⟨call169⟩
instance:Cf Tryz.prog 170:=⟨call170⟩
instance:Cf Tryz.prog 175:=⟨call175⟩
instance:Cf Tryz.prog 177:=⟨call177⟩
instance:Cf Tryz.prog 178:=⟨call178⟩
instance:Cf Tryz.prog 186:=⟨call186⟩
instance:Cf Tryz.prog 187:=⟨call187⟩
instance:Cf Tryz.prog 191:=⟨call191⟩
instance:Cf Tryz.prog 194:=⟨call194⟩
instance:Cf Tryz.prog 195:=⟨call195⟩
instance:Cf Tryz.prog 196:=⟨call196⟩
instance:Cf Tryz.prog 207:=⟨call207⟩
instance:Cf Tryz.prog 214:=⟨call214⟩
instance:Cf Tryz.prog 226:=⟨call226⟩
instance:type_of% (BdT.mk underlying26 zeroValue26 (fun w=>by simp [sizeOf2,sizeOf24];rfl)):=⟨underlying26,zeroValue26,(fun w=>by simp [sizeOf2,sizeOf24])⟩
instance:type_of% (BdT.mk underlying30 zeroValue30 (fun w=>by simp [sizeOf28];rfl)):=⟨underlying30,zeroValue30,(fun w=>by simp [sizeOf28])⟩
instance:type_of% (BdT.mk underlying43 zeroValue43 (fun w=>by simp [sizeOf2,sizeOf41];rfl)):=⟨underlying43,zeroValue43,(fun w=>by simp [sizeOf2,sizeOf41])⟩
instance:type_of% (BdT.mk underlying72 zeroValue72 (fun w=>by simp [sizeOf2,sizeOf70];rfl)):=⟨underlying72,zeroValue72,(fun w=>by simp [sizeOf2,sizeOf70])⟩
instance:type_of% (BdT.mk underlying108 zeroValue108 (fun w=>by simp [sizeOf2,sizeOf57];rfl)):=⟨underlying108,zeroValue108,(fun w=>by simp [sizeOf2,sizeOf57])⟩
instance:type_of% (BdT.mk underlying113 zeroValue113 (fun w=>by simp [sizeOf111,sizeOf22,sizeOf3];rfl)):=⟨underlying113,zeroValue113,(fun w=>by simp [sizeOf111,sizeOf22,sizeOf3])⟩
instance:type_of% (BdT.mk underlying120 zeroValue120 (fun w=>by simp [sizeOf2,sizeOf36];rfl)):=⟨underlying120,zeroValue120,(fun w=>by simp [sizeOf2,sizeOf36])⟩
instance:type_of% (BdT.mk underlying134 zeroValue134 (fun w=>by simp [sizeOf2,sizeOf36];rfl)):=⟨underlying134,zeroValue134,(fun w=>by simp [sizeOf2,sizeOf36])⟩
instance:type_of% (BdT.mk underlying155 zeroValue155 (fun w=>by simp [sizeOf2,sizeOf3,sizeOf57,sizeOf66,sizeOf87];rfl)):=⟨underlying155,zeroValue155,(fun w=>by simp [sizeOf2,sizeOf3,sizeOf57,sizeOf66,sizeOf87])⟩
end Go.Proofs.YtlommebgedmjdaaGreatDoor
