/- Several texts in one. No condition but those that stand in each. -/
import Derived.Test.YtpmifmdidfgpdaaGreatT
/- Functions of the program, written gq. No condition but bT bB stand in each. -/
namespace Go.Proofs.YtpmifmdidfgpdaaGreat
open Go
set_option maxRecDepth 100000
set_option linter.all false
end Go.Proofs.YtpmifmdidfgpdaaGreat

/- Functions of the program, written gq. No condition but bT bB stand in each. -/
namespace Go.Proofs.YtpmifmdidfgpdaaGreat
open Go
set_option maxRecDepth 100000
set_option linter.all false
def n5 (n : Int) : Option Bool :=
 some ((decide ((1:Int) ≤ n)) && (decide (n ≤ (1000:Int))))
def lN (t : aD) (ra1 : Int) : Option Bool :=
 bN t.aI 0 (fun (j1 : Int) (e1 : aY) (Z1 : Unit → Option _) (sg : Unit) => match sg with | () => bif decide (e1.ID = ra1) then some true else Z1 ()) (fun (sg : Unit) => match sg with | () => some false) ()
def jF (t : aD) (dX : Int) (ji : Int) : Option (Int × Bool) :=
 bN t.Links 0 (fun (j1 : Int) (e1 : aQ) (Z1 : Unit → Option _) (sg : Unit) => match sg with | () => bif ((decide (e1.A = dX)) && (decide (e1.B = ji))) then some (e1.ja, true) else bif ((decide (e1.B = dX)) && (decide (e1.A = ji))) then some (e1.iF, true) else Z1 ()) (fun (sg : Unit) => match sg with | () => some ((0:Int), false)) ()
def iw (t : aD) : Option Int :=
 bif ((decide ((24:Int) < (t.aI.length:Int))) || (decide ((60:Int) < (t.Links.length:Int)))) then some (3:Int) else bN t.aI 0 (fun (j1 : Int) (e1 : aY) (Z1 : Unit → Option _) (sg : Unit) => match sg with | () => bif ((decide (e1.ID < (1:Int))) || (decide ((99:Int) < e1.ID))) then some (2:Int) else Z1 ()) (fun (sg : Unit) => match sg with | () => bN (List.drop 1 t.aI) 1 (fun (j2 : Int) (e2 : aY) (Z2 : Unit → Option _) (sg : Unit) => match sg with | () => bnd (elO t.aI (w64 ((j2 : Int) - (1:Int)))) fun (e_1 : aY) => bif decide (e2.ID ≤ e_1.ID) then some (25:Int) else Z2 ()) (fun (sg : Unit) => match sg with | () => bN t.Links 0 (fun (j3 : Int) (e3 : aQ) (Z3 : Unit → Option _) (sg : Unit) => match sg with | () => jn (fun (v_1 : Bool) => bif v_1 then some (2:Int) else Z3 ()) fun J1 => bnd (n5 e3.ja) fun (af : Bool) => (bif !af then J1 true else bnd (n5 e3.iF) fun (ay : Bool) => (bif !ay then J1 true else (bif decide (e3.bY < (0:Int)) then J1 true else J1 (decide ((1000:Int) < e3.bY)))))) (fun (sg : Unit) => match sg with | () => bN t.Links 0 (fun (j4 : Int) (e4 : aQ) (Z4 : Unit → Option _) (sg : Unit) => match sg with | () => jn (fun (v_2 : Bool) => bif v_2 then some (4:Int) else Z4 ()) fun J2 => bnd (lN t e4.A) fun (aK : Bool) => (bif !aK then J2 true else bnd (lN t e4.B) fun (bh : Bool) => J2 (!bh))) (fun (sg : Unit) => match sg with | () => bN t.Links 0 (fun (j5 : Int) (e5 : aQ) (Z5 : Unit → Option _) (sg : Unit) => match sg with | () => bif decide (e5.B ≤ e5.A) then some (8:Int) else Z5 ()) (fun (sg : Unit) => match sg with | () => bN (List.drop 1 t.Links) 1 (fun (j6 : Int) (e6 : aQ) (Z6 : Unit → Option _) (sg : Unit) => match sg with | () => bnd (elO t.Links (w64 ((j6 : Int) - (1:Int)))) fun (e_2 : aQ) => bif ((decide (e6.A < e_2.A)) || ((decide (e_2.A = e6.A)) && (decide (e6.B ≤ e_2.B)))) then some (25:Int) else Z6 ()) (fun (sg : Unit) => match sg with | () => some (0:Int)) ()) ()) ()) ()) ()) ()
def rG (xa0 : Int) (n : Int) : Option Int :=
 bif decide (n < (1:Int)) then some (0:Int) else chk (decide (n ≠ 0)) <| jn (fun (af : Int) => some af) fun J1 => bif decide (Int.tmod xa0 n < (0:Int)) then J1 (w64 ((Int.tmod xa0 n) + n)) else J1 (Int.tmod xa0 n)
def nt (t : aR) : Option (Int × aR) :=
 bif decide ((t.L.length:Int) ≤ t.At) then some ((0:Int), t) else bnd (elO t.L (w64 ((w64 (t.At + (1:Int))) - (1:Int)))) fun (e_1 : Int) => some (e_1, (aR.mk t.L (w64 (t.At + (1:Int)))))
def bU (t : aR) (n : Int) : Option (Int × aR) :=
 bnd (nt t) fun (af : Int × aR) => bnd (rG af.1 n) fun (ay : Int) => some (ay, af.2)
def dQ (t : aR) (low : Int) (high : Int) : Option (Int × aR) :=
 bnd (bU t (w64 ((w64 (high - low)) + (1:Int)))) fun (af : Int × aR) => some (w64 (low + af.1), af.2)
end Go.Proofs.YtpmifmdidfgpdaaGreat

/- Functions of the program, written gq. No condition but bT bB stand in each. -/
namespace Go.Proofs.YtpmifmdidfgpdaaGreat
open Go
set_option maxRecDepth 100000
set_option linter.all false
def oS (t : aD) (ra1 : Int) : Option Bool :=
 bnd (iw t) fun (af : Int) => (bif decide (af = (0:Int)) then bnd (lN t ra1) fun (ay : Bool) => some ay else some false)
def ig (t : aD) (ra1 : Int) : Option Bool :=
 bnd (iw t) fun (af : Int) => bif !decide (af = (0:Int)) then some false else bN t.aI 0 (fun (j1 : Int) (e1 : aY) (Z1 : Unit → Option _) (sg : Unit) => match sg with | () => bif decide (e1.ID = ra1) then some e1.aX else Z1 ()) (fun (sg : Unit) => match sg with | () => some false) ()
def me (t : aD) (ra1 : Int) : Option (List Int) :=
 bN t.aI 0 (fun (j1 : Int) (e1 : aY) (Z1 : (List Int) → Option _) (dx : (List Int)) => jn (fun (oC : (List Int)) => Z1 oC) fun J1 => bnd (jF t ra1 e1.ID) fun (af : Int × Bool) => bif af.2 then bnd (cM dx ([e1.ID] : List Int)) fun (l_1 : List Int) => J1 l_1 else J1 dx) (fun (dx : (List Int)) => some dx) []
def n9 (a : aD) (b : aD) : Option Bool :=
 bif ((!decide ((a.aI.length:Int) = (b.aI.length:Int))) || (!decide ((a.Links.length:Int) = (b.Links.length:Int)))) then some false else bN a.aI 0 (fun (j1 : Int) (e1 : aY) (Z1 : Unit → Option _) (sg : Unit) => match sg with | () => bnd (elO b.aI (j1 : Int)) fun (e_1 : aY) => bif !(rW e1 e_1) then some false else Z1 ()) (fun (sg : Unit) => match sg with | () => bN a.Links 0 (fun (j2 : Int) (e2 : aQ) (Z2 : Unit → Option _) (sg : Unit) => match sg with | () => bnd (elO b.Links (j2 : Int)) fun (e_2 : aQ) => bif !(u0 e2 e_2) then some false else Z2 ()) (fun (sg : Unit) => match sg with | () => some true) ()) ()
end Go.Proofs.YtpmifmdidfgpdaaGreat

/- Functions of the program, written gq. No condition but bT bB stand in each. -/
namespace Go.Proofs.YtpmifmdidfgpdaaGreat
open Go
set_option maxRecDepth 100000
set_option linter.all false
def cR (t : aR) (l : List Int) : Option (Int × aR) :=
 bnd (bU t (l.length:Int)) fun (af : Int × aR) => bnd (elO l af.1) fun (e_1 : Int) => some (e_1, af.2)
def fc (t : aR) (n : Int) : Option (Bool × aR) :=
 bnd (bU t n) fun (af : Int × aR) => some (decide (af.1 = w64 (n - (1:Int))), af.2)
def eE (t : aR) : Option (Int × aR) :=
 bnd (cR t ([(-1:Int), (0:Int), (1:Int), (7:Int), (8:Int), (23:Int), (24:Int), (31:Int), (32:Int), (63:Int), (64:Int), (99:Int), (100:Int), (255:Int), (256:Int), (257:Int), (1000:Int), (1001:Int), (1023:Int), (1024:Int), (1000000:Int), (1000001:Int), (1099511627776:Int), (9223372036854775807:Int), (-9223372036854775808:Int)] : List Int)) fun (af : Int × aR) => some (af.1, af.2)
def iP (t : aR) : Option (Int × aR) :=
 bnd (cR t ([(8:Int), (8:Int), (16:Int), (32:Int), (64:Int)] : List Int)) fun (af : Int × aR) => some (af.1, af.2)
def qx (l : List aQ) : Option (List aQ) :=
 bN l 0 (fun (j1 : Int) (e1 : aQ) (Z1 : (List aQ) → Option _) (dx : (List aQ)) => whl (fun (Z2 : Int → Option _) (nS : Int) => jn (fun (v_1 : Bool) => bif v_1 then Z2 (w64 (nS + (1:Int))) else bnd (kJ dx (0:Int) nS) fun (l_1 : List aQ) => bnd (cM [] l_1) fun (l_2 : List aQ) => bnd (cM l_2 ([e1] : List aQ)) fun (l_3 : List aQ) => bnd (kJ dx nS (dx.length:Int)) fun (l_4 : List aQ) => bnd (cM l_3 l_4) fun (l_5 : List aQ) => Z1 l_5) fun J1 => (bif decide (nS < (dx.length:Int)) then bnd (elO dx nS) fun (e_1 : aQ) => (bif decide (e_1.A < e1.A) then J1 true else (bif decide (e_1.A = e1.A) then J1 (decide (e_1.B < e1.B)) else J1 false)) else J1 false)) (0:Int)) (fun (dx : (List aQ)) => some dx) []
def tP (l : List Int) : Option aR :=
 jn (fun (l_1 : (List Int)) => some (aR.mk l_1 (0:Int))) fun J1 => bif decide ((600:Int) < (l.length:Int)) then bnd (kJ l (0:Int) (600:Int)) fun (l_2 : List Int) => J1 l_2 else J1 l
def jj (t : aR) (most : Int) (n : Int) : Option (aD × aR) :=
 bnd (dQ t (1:Int) most) fun (af : Int × aR) => chk (decide ((af.1 + 1) ≤ 9223372036854775807)) <| gr ((af.1 + 1) - (1:Int)).toNat (1:Int) (fun (j1 : Int) (Z1 : (List aY) → Option _) (m_1 : (List aY)) => bnd (cM m_1 ([(aY.mk (j1 : Int) true)] : List aY)) fun (l_1 : List aY) => Z1 l_1) (fun (j1 : Int) (m_1 : (List aY)) => bnd (cR af.2 ([(1:Int), (2:Int), (2:Int), (5:Int)] : List Int)) fun (ay : Int × aR) => chk (decide ((af.1 + 1) ≤ 9223372036854775807)) <| gr ((af.1 + 1) - (2:Int)).toNat (2:Int) (fun (j2 : Int) (Z2 : ((List aQ) × (List Int) × Int) → Option _) (sg : (List aQ) × (List Int) × Int) => match sg with | (m_2, m_3, m_4) => bnd (dQ (aR.mk m_3 m_4) (1:Int) (w64 ((j2 : Int) - (1:Int)))) fun (aK : Int × aR) => bnd (fc aK.2 (9:Int)) fun (bh : Bool × aR) => chk (decide ((j2 : Int) ≤ 9223372036854775807)) <| gr ((j2 : Int) - (1:Int)).toNat (1:Int) (fun (j3 : Int) (Z3 : ((List aQ) × (List Int) × Int) → Option _) (sg : (List aQ) × (List Int) × Int) => match sg with | (m_5, m_6, m_7) => jn (fun (sg : (List Int) × Int × (List aQ)) => match sg with | (m_8, m_9, gu) => Z3 (gu, m_8, m_9)) fun J1 => jn (fun (sg : Bool × (List Int) × Int) => match sg with | (v_1, gf, kK) => bif v_1 then bnd (dQ (aR.mk gf kK) (1:Int) ay.1) fun (cD : Int × aR) => bnd (dQ cD.2 (1:Int) ay.1) fun (dg : Int × aR) => bnd (bU dg.2 (4:Int)) fun (dB : Int × aR) => bnd (cM m_5 ([(aQ.mk (j3 : Int) (j2 : Int) cD.1 dg.1 dB.1)] : List aQ)) fun (l_2 : List aQ) => J1 (dB.2.L, dB.2.At, l_2) else J1 (gf, kK, m_5)) fun J2 => (bif decide ((j3 : Int) = aK.1) then (bif !bh.1 then J2 (true, m_6, m_7) else bnd (fc (aR.mk m_6 m_7) (3:Int)) fun (bI : Bool × aR) => J2 (bI.1, bI.2.L, bI.2.At)) else bnd (fc (aR.mk m_6 m_7) (3:Int)) fun (bV : Bool × aR) => J2 (bV.1, bV.2.L, bV.2.At))) (fun (j3 : Int) (sg : (List aQ) × (List Int) × Int) => match sg with | (m_5, m_6, m_7) => Z2 (m_5, m_6, m_7)) (m_2, bh.2.L, bh.2.At)) (fun (j2 : Int) (sg : (List aQ) × (List Int) × Int) => match sg with | (m_2, m_3, m_4) => bnd (qx m_2) fun (bQ : (List aQ)) => jn (fun (sg : (List Int) × Int × (List aY) × (List aQ)) => match sg with | (sI, sJ, tQ, tT) => some ((aD.mk tQ tT), (aR.mk sI sJ))) fun J3 => jn (fun (sg : Bool × (List Int) × Int) => match sg with | (v_2, qy, qz) => bif v_2 then bnd (bU (aR.mk qy qz) (7:Int)) fun (cm : Int × aR) => bif decide (cm.1 = (0:Int)) then bnd (cR cm.2 ([(0:Int), (1:Int), (99:Int), (100:Int), (-1:Int)] : List Int)) fun (gy : Int × aR) => bnd (cM m_1 ([(aY.mk gy.1 false)] : List aY)) fun (l_3 : List aY) => J3 (gy.2.L, gy.2.At, l_3, bQ) else bif decide (cm.1 = (1:Int)) then bnd (bU cm.2 (4:Int)) fun (lg : Int × aR) => bnd (bU lg.2 (4:Int)) fun (ko : Int × aR) => bnd (cM bQ ([(aQ.mk lg.1 ko.1 (1:Int) (1:Int) (0:Int))] : List aQ)) fun (l_4 : List aQ) => J3 (ko.2.L, ko.2.At, m_1, l_4) else bif decide (cm.1 = (2:Int)) then bif decide ((0:Int) < (bQ.length:Int)) then bnd (bU cm.2 (bQ.length:Int)) fun (nT : Int × aR) => bnd (eE nT.2) fun (pe : Int × aR) => bnd (elO bQ nT.1) fun (e_1 : aQ) => bnd (iL bQ nT.1 (aQ.mk e_1.A e_1.B pe.1 e_1.iF e_1.bY)) fun (l_5 : List aQ) => J3 (pe.2.L, pe.2.At, m_1, l_5) else J3 (cm.2.L, cm.2.At, m_1, bQ) else bif decide (cm.1 = (3:Int)) then bif decide ((0:Int) < (bQ.length:Int)) then bnd (bU cm.2 (bQ.length:Int)) fun (pg : Int × aR) => bnd (eE pg.2) fun (lp : Int × aR) => bnd (elO bQ pg.1) fun (e_2 : aQ) => bnd (iL bQ pg.1 (aQ.mk e_2.A e_2.B e_2.ja lp.1 e_2.bY)) fun (l_6 : List aQ) => J3 (lp.2.L, lp.2.At, m_1, l_6) else J3 (cm.2.L, cm.2.At, m_1, bQ) else bif decide (cm.1 = (4:Int)) then bif decide ((0:Int) < (bQ.length:Int)) then bnd (bU cm.2 (bQ.length:Int)) fun (abC : Int × aR) => bnd (eE abC.2) fun (uC : Int × aR) => bnd (elO bQ abC.1) fun (e_3 : aQ) => bnd (iL bQ abC.1 (aQ.mk e_3.A e_3.B e_3.ja e_3.iF uC.1)) fun (l_7 : List aQ) => J3 (uC.2.L, uC.2.At, m_1, l_7) else J3 (cm.2.L, cm.2.At, m_1, bQ) else bif decide (cm.1 = (5:Int)) then bif decide ((0:Int) < (bQ.length:Int)) then bnd (bU cm.2 (bQ.length:Int)) fun (vS : Int × aR) => bnd (elO bQ vS.1) fun (e_4 : aQ) => bnd (cM bQ ([e_4] : List aQ)) fun (l_8 : List aQ) => J3 (vS.2.L, vS.2.At, m_1, l_8) else J3 (cm.2.L, cm.2.At, m_1, bQ) else gr ((75:Int) - (50:Int)).toNat (50:Int) (fun (j4 : Int) (Z4 : (List aY) → Option _) (pM : (List aY)) => bnd (cM pM ([(aY.mk (j4 : Int) false)] : List aY)) fun (l_9 : List aY) => Z4 l_9) (fun (j4 : Int) (pM : (List aY)) => J3 (cm.2.L, cm.2.At, pM, bQ)) m_1 else J3 (qy, qz, m_1, bQ)) fun J4 => (bif decide ((0:Int) < n) then bnd (fc (aR.mk m_3 m_4) n) fun (en : Bool × aR) => J4 (en.1, en.2.L, en.2.At) else J4 (false, m_3, m_4))) ([], ay.2.L, ay.2.At)) []
end Go.Proofs.YtpmifmdidfgpdaaGreat

/- Functions of the program, written gq. No condition but bT bB stand in each. -/
namespace Go.Proofs.YtpmifmdidfgpdaaGreat
open Go
set_option maxRecDepth 100000
set_option linter.all false
def lq (xa0 : Int) : Option Bool :=
 some (!decide (xa0 = xa0))
def dW (xa0 : Int) (y : Int) : Option Int :=
 bnd (lq xa0) fun (af : Bool) => bnd (lq y) fun (ay : Bool) => bif af then bif ay then some (0:Int) else some (-1:Int) else bif ay then some (1:Int) else bif decide (xa0 < y) then some (-1:Int) else bif decide (y < xa0) then some (1:Int) else some (0:Int)
def mg (vals : List Int) : Option Int :=
 bN vals 0 (fun (j1 : Int) (e1 : Int) (Z1 : Unit → Option _) (sg : Unit) => match sg with | () => bif !decide (e1 = (0:Int)) then some e1 else Z1 ()) (fun (sg : Unit) => match sg with | () => some (0:Int)) ()
def cn (xa0 : List aY) (target : Int) (cmp : aY → Int → Option Int) : Option (Int × Bool) :=
 whl (fun (Z1 : (Int × Int) → Option _) (sg : Int × Int) => match sg with | (i_1, j_1) => bif decide (i_1 < j_1) then bnd (elO xa0 (w64 (Int.fdiv (IntKind.wrap .u64 (w64 (i_1 + j_1))) (2 ^ min (1:Int).toNat 64)))) fun (e_1 : aY) => bnd (cmp e_1 target) fun (af : Int) => bif decide (af < (0:Int)) then Z1 (w64 ((w64 (Int.fdiv (IntKind.wrap .u64 (w64 (i_1 + j_1))) (2 ^ min (1:Int).toNat 64))) + (1:Int)), j_1) else Z1 (i_1, w64 (Int.fdiv (IntKind.wrap .u64 (w64 (i_1 + j_1))) (2 ^ min (1:Int).toNat 64))) else (bif decide (i_1 < (xa0.length:Int)) then bnd (elO xa0 i_1) fun (e_2 : aY) => bnd (cmp e_2 target) fun (ay : Int) => some (i_1, decide (ay = (0:Int))) else some (i_1, false))) ((0:Int), (xa0.length:Int))
def dY (sa0 : List aV) (f : aV → Option Bool) : Option Int :=
 bN sa0 0 (fun (j1 : Int) (e1 : aV) (Z1 : Unit → Option _) (sg : Unit) => match sg with | () => bnd (f e1) fun (af : Bool) => bif af then some (j1 : Int) else Z1 ()) (fun (sg : Unit) => match sg with | () => some (-1:Int)) ()
def cA (xa0 : List aQ) (target : aQ) (cmp : aQ → aQ → Option Int) : Option (Int × Bool) :=
 whl (fun (Z1 : (Int × Int) → Option _) (sg : Int × Int) => match sg with | (i_1, j_1) => bif decide (i_1 < j_1) then bnd (elO xa0 (w64 (Int.fdiv (IntKind.wrap .u64 (w64 (i_1 + j_1))) (2 ^ min (1:Int).toNat 64)))) fun (e_1 : aQ) => bnd (cmp e_1 target) fun (af : Int) => bif decide (af < (0:Int)) then Z1 (w64 ((w64 (Int.fdiv (IntKind.wrap .u64 (w64 (i_1 + j_1))) (2 ^ min (1:Int).toNat 64))) + (1:Int)), j_1) else Z1 (i_1, w64 (Int.fdiv (IntKind.wrap .u64 (w64 (i_1 + j_1))) (2 ^ min (1:Int).toNat 64))) else (bif decide (i_1 < (xa0.length:Int)) then bnd (elO xa0 i_1) fun (e_2 : aQ) => bnd (cmp e_2 target) fun (ay : Int) => some (i_1, decide (ay = (0:Int))) else some (i_1, false))) ((0:Int), (xa0.length:Int))
def dK (sa0 : List aY) (f : aY → Option Bool) : Option Int :=
 bN sa0 0 (fun (j1 : Int) (e1 : aY) (Z1 : Unit → Option _) (sg : Unit) => match sg with | () => bnd (f e1) fun (af : Bool) => bif af then some (j1 : Int) else Z1 ()) (fun (sg : Unit) => match sg with | () => some (-1:Int)) ()
def dZ (sa0 : List aQ) (f : aQ → Option Bool) : Option Int :=
 bN sa0 0 (fun (j1 : Int) (e1 : aQ) (Z1 : Unit → Option _) (sg : Unit) => match sg with | () => bnd (f e1) fun (af : Bool) => bif af then some (j1 : Int) else Z1 ()) (fun (sg : Unit) => match sg with | () => some (-1:Int)) ()
def dL (sa0 : List aj) (f : aj → Option Bool) : Option Int :=
 bN sa0 0 (fun (j1 : Int) (e1 : aj) (Z1 : Unit → Option _) (sg : Unit) => match sg with | () => bnd (f e1) fun (af : Bool) => bif af then some (j1 : Int) else Z1 ()) (fun (sg : Unit) => match sg with | () => some (-1:Int)) ()
def kL (sa0 : List Int) (v : Int) : Option Int :=
 bN sa0 0 (fun (j1 : Int) (e1 : Int) (Z1 : Unit → Option _) (sg : Unit) => match sg with | () => bif decide (v = e1) then some (j1 : Int) else Z1 ()) (fun (sg : Unit) => match sg with | () => some (-1:Int)) ()
def fe (sa0 : List fQ) (f : fQ → Option Bool) : Option Int :=
 bN sa0 0 (fun (j1 : Int) (e1 : fQ) (Z1 : Unit → Option _) (sg : Unit) => match sg with | () => bnd (f e1) fun (af : Bool) => bif af then some (j1 : Int) else Z1 ()) (fun (sg : Unit) => match sg with | () => some (-1:Int)) ()
def cC (xa0 : List aj) (target : Int) (cmp : aj → Int → Option Int) : Option (Int × Bool) :=
 whl (fun (Z1 : (Int × Int) → Option _) (sg : Int × Int) => match sg with | (i_1, j_1) => bif decide (i_1 < j_1) then bnd (elO xa0 (w64 (Int.fdiv (IntKind.wrap .u64 (w64 (i_1 + j_1))) (2 ^ min (1:Int).toNat 64)))) fun (e_1 : aj) => bnd (cmp e_1 target) fun (af : Int) => bif decide (af < (0:Int)) then Z1 (w64 ((w64 (Int.fdiv (IntKind.wrap .u64 (w64 (i_1 + j_1))) (2 ^ min (1:Int).toNat 64))) + (1:Int)), j_1) else Z1 (i_1, w64 (Int.fdiv (IntKind.wrap .u64 (w64 (i_1 + j_1))) (2 ^ min (1:Int).toNat 64))) else (bif decide (i_1 < (xa0.length:Int)) then bnd (elO xa0 i_1) fun (e_2 : aj) => bnd (cmp e_2 target) fun (ay : Int) => some (i_1, decide (ay = (0:Int))) else some (i_1, false))) ((0:Int), (xa0.length:Int))
def cU (sa0 : List aY) (f : aY → Option Bool) : Option Bool :=
 bnd (dK sa0 f) fun (af : Int) => some (decide ((0:Int) ≤ af))
def cz (sa0 : List aQ) (f : aQ → Option Bool) : Option Bool :=
 bnd (dZ sa0 f) fun (af : Int) => some (decide ((0:Int) ≤ af))
def cV (sa0 : List aj) (f : aj → Option Bool) : Option Bool :=
 bnd (dL sa0 f) fun (af : Int) => some (decide ((0:Int) ≤ af))
def ff (sa0 : List Int) (v : Int) : Option Bool :=
 bnd (kL sa0 v) fun (af : Int) => some (decide ((0:Int) ≤ af))
def eF (sa0 : List fQ) (f : fQ → Option Bool) : Option Bool :=
 bnd (fe sa0 f) fun (af : Int) => some (decide ((0:Int) ≤ af))
def iy (n : Int) (least : Int) (most : Int) : Option Bool :=
 some ((decide (least ≤ n)) && (decide (n ≤ most)))
def gM (a : aQ) (b : aQ) : Option Int :=
 bnd (dW a.A b.A) fun (af : Int) => bnd (dW a.B b.B) fun (ay : Int) => bnd (mg ([af, ay] : List Int)) fun (aK : Int) => some aK
def jt (ra0 : aY) (id : Int) : Option Int :=
 bnd (dW ra0.ID id) fun (af : Int) => some af
def lu (ra0 : aY) : Option Bool :=
 bnd (iy ra0.ID (1:Int) (99:Int)) fun (af : Bool) => some (!af)
def jk (l : aQ) : Option Bool :=
 bnd (iy l.ja (1:Int) (1000:Int)) fun (af : Bool) => (bif !af then some true else bnd (iy l.iF (1:Int) (1000:Int)) fun (ay : Bool) => (bif !ay then some true else bnd (iy l.bY (0:Int) (1000:Int)) fun (aK : Bool) => some (!aK)))
def gN (id : Int) (c_0 : aD) : Option Bool :=
 bnd (cn c_0.aI id jt) fun (af : Int × Bool) => some (!af.2)
def lz (l : aQ) (c_0 : aD) : Option Bool :=
 bnd (gN l.A c_0) fun (af : Bool) => (bif af then some true else bnd (gN l.B c_0) fun (ay : Bool) => some ay)
def lB (l : aQ) : Option Bool :=
 some (decide (l.B ≤ l.A))
def fR (t : aD) : Option Int :=
 bif ((decide ((24:Int) < (t.aI.length:Int))) || (decide ((60:Int) < (t.Links.length:Int)))) then some (3:Int) else bnd (cU t.aI lu) fun (af : Bool) => bif af then some (2:Int) else bN t.aI 0 (fun (j1 : Int) (e1 : aY) (Z1 : Unit → Option _) (sg : Unit) => match sg with | () => jn (fun (v_1 : Bool) => bif v_1 then some (25:Int) else Z1 ()) fun J1 => (bif decide ((0:Int) < (j1 : Int)) then bnd (elO t.aI (w64 ((j1 : Int) - (1:Int)))) fun (e_1 : aY) => J1 (decide (e1.ID ≤ e_1.ID)) else J1 false)) (fun (sg : Unit) => match sg with | () => bnd (cz t.Links jk) fun (ay : Bool) => bif ay then some (2:Int) else bnd (cz t.Links (fun (y0 : aQ) => lz y0 t)) fun (aK : Bool) => bif aK then some (4:Int) else bnd (cz t.Links lB) fun (bh : Bool) => bif bh then some (8:Int) else bN t.Links 0 (fun (j2 : Int) (e2 : aQ) (Z2 : Unit → Option _) (sg : Unit) => match sg with | () => jn (fun (v_2 : Bool) => bif v_2 then some (25:Int) else Z2 ()) fun J2 => (bif decide ((0:Int) < (j2 : Int)) then bnd (elO t.Links (w64 ((j2 : Int) - (1:Int)))) fun (e_2 : aQ) => bnd (gM e_2 e2) fun (bI : Int) => J2 (decide ((0:Int) ≤ bI)) else J2 false)) (fun (sg : Unit) => match sg with | () => some (0:Int)) ()) ()
def fS (t : aD) : Option Bool :=
 bnd (fR t) fun (af : Int) => some (decide (af = (0:Int)))
def jv (t : aD) (aJ : Int) : Option (aY × Bool) :=
 bnd (cn t.aI aJ jt) fun (af : Int × Bool) => bif !af.2 then some ((aY.mk (0:Int) false), false) else bnd (elO t.aI af.1) fun (e_1 : aY) => some (e_1, true)
def gO (t : aD) (aJ : Int) : Option Bool :=
 bnd (jv t aJ) fun (af : aY × Bool) => bnd (fS t) fun (ay : Bool) => (bif ay then some af.2 else some false)
def jl (t : aD) (aJ : Int) : Option Bool :=
 bnd (jv t aJ) fun (af : aY × Bool) => bnd (fS t) fun (ay : Bool) => (bif ay then some af.1.aX else some false)
def jx (t : aD) (dX : Int) (ji : Int) : Option (Int × Bool) :=
 bnd (fS t) fun (af : Bool) => bif !af then some ((0:Int), false) else bnd (cA t.Links (aQ.mk (if ji < dX then ji else dX) (if ji > dX then ji else dX) (0:Int) (0:Int) (0:Int)) gM) fun (ay : Int × Bool) => bif !ay.2 then some ((0:Int), false) else bif decide (dX < ji) then bnd (elO t.Links ay.1) fun (e_1 : aQ) => some (e_1.ja, true) else bnd (elO t.Links ay.1) fun (e_2 : aQ) => some (e_2.iF, true)
end Go.Proofs.YtpmifmdidfgpdaaGreat

/- Functions of the program, written gq. No condition but bT bB stand in each. -/
namespace Go.Proofs.YtpmifmdidfgpdaaGreat
open Go
set_option maxRecDepth 100000
set_option linter.all false
def oL (xa0 : Int) : Option Int :=
 jn (fun (sg : Int × Int) => match sg with | (af, n_1) => jn (fun (sg : Int × Int) => match sg with | (ay, n_2) => jn (fun (sg : Int × Int) => match sg with | (aK, n_3) => bnd (ixS (⟨#[0, 1, 2, 2, 3, 3, 3, 3, 4, 4, 4, 4, 4, 4, 4, 4, 5, 5, 5, 5, 5, 5, 5, 5, 5, 5, 5, 5, 5, 5, 5, 5, 6, 6, 6, 6, 6, 6, 6, 6, 6, 6, 6, 6, 6, 6, 6, 6, 6, 6, 6, 6, 6, 6, 6, 6, 6, 6, 6, 6, 6, 6, 6, 6, 7, 7, 7, 7, 7, 7, 7, 7, 7, 7, 7, 7, 7, 7, 7, 7, 7, 7, 7, 7, 7, 7, 7, 7, 7, 7, 7, 7, 7, 7, 7, 7, 7, 7, 7, 7, 7, 7, 7, 7, 7, 7, 7, 7, 7, 7, 7, 7, 7, 7, 7, 7, 7, 7, 7, 7, 7, 7, 7, 7, 7, 7, 7, 7, 8, 8, 8, 8, 8, 8, 8, 8, 8, 8, 8, 8, 8, 8, 8, 8, 8, 8, 8, 8, 8, 8, 8, 8, 8, 8, 8, 8, 8, 8, 8, 8, 8, 8, 8, 8, 8, 8, 8, 8, 8, 8, 8, 8, 8, 8, 8, 8, 8, 8, 8, 8, 8, 8, 8, 8, 8, 8, 8, 8, 8, 8, 8, 8, 8, 8, 8, 8, 8, 8, 8, 8, 8, 8, 8, 8, 8, 8, 8, 8, 8, 8, 8, 8, 8, 8, 8, 8, 8, 8, 8, 8, 8, 8, 8, 8, 8, 8, 8, 8, 8, 8, 8, 8, 8, 8, 8, 8, 8, 8, 8, 8, 8, 8, 8, 8, 8, 8, 8, 8, 8, 8, 8, 8, 8, 8, 8, 8]⟩ : ByteArray) (IntKind.wrap .u8 aK)) fun (b_1 : UInt8) => some (w64 (n_3 + (w64 (b_1.toNat : Int))))) fun J3 => bif decide ((256:Int) ≤ ay) then J3 (Int.fdiv ay (2 ^ min (8:Int).toNat 64), w64 (n_2 + (8:Int))) else J3 (ay, n_2)) fun J2 => bif decide ((65536:Int) ≤ af) then J2 (Int.fdiv af (2 ^ min (16:Int).toNat 64), w64 (n_1 + (16:Int))) else J2 (af, n_1)) fun J1 => bif decide ((4294967296:Int) ≤ xa0) then J1 (Int.fdiv xa0 (2 ^ min (32:Int).toNat 64), (32:Int)) else J1 (xa0, (0:Int))
def qA (xa0 : Int) : Option Int :=
 bnd (oL xa0) fun (af : Int) => some af
def fJ  : Option Unit :=
 whl (fun (Z1 : Unit → Option _) (sg : Unit) => match sg with | () => some ()) ()
def gX (limit : Int) : Option Unit :=
 whl (fun (Z1 : Unit → Option _) (sg : Unit) => match sg with | () => bnd (fJ) fun (af : Unit) => some ()) ()
def nu  : Option Unit :=
 bnd (qA (0:Int)) fun (af : Int) => bnd (gX af) fun (ay : Unit) => some ()
end Go.Proofs.YtpmifmdidfgpdaaGreat

/- Functions of the program, written gq. No condition but bT bB stand in each. -/
namespace Go.Proofs.YtpmifmdidfgpdaaGreat
open Go
set_option maxRecDepth 100000
set_option linter.all false
def fL (t : aD) (aJ : Int) : Option (List Int) :=
 bN t.Links 0 (fun (j1 : Int) (e1 : aQ) (Z1 : (List Int) → Option _) (dx : (List Int)) => jn (fun (oC : (List Int)) => Z1 oC) fun J1 => bif decide (aJ = e1.A) then bnd (cM dx ([e1.B] : List Int)) fun (l_1 : List Int) => J1 l_1 else bif decide (aJ = e1.B) then bnd (cM dx ([e1.A] : List Int)) fun (l_2 : List Int) => J1 l_2 else J1 dx) (fun (dx : (List Int)) => chk (decide (dx.length < 4611686018427387904)) <| some (iE dx)) []
def jR : Nat → Int → (List Int) → (List Int) → (List aY) → (List aQ) → Option (List Int)
 | 0, _, _, _, _, _ => none
 | n_ + 1, ra0, uQ, tU, tV, tW => jn (fun (v_1 : Bool) => bif v_1 then some uQ else bnd (cM uQ ([ra0] : List Int)) fun (l_1 : List Int) => bnd (fL (aD.mk tV tW) ra0) fun (aK : (List Int)) => bN aK 0 (fun (j1 : Int) (e1 : Int) (Z1 : (List Int) → Option _) (m_1 : (List Int)) => bnd (jR n_ e1 m_1 tU tV tW) fun (bh : (List Int)) => Z1 bh) (fun (m_1 : (List Int)) => some m_1) l_1) fun J1 => bnd (ff uQ ra0) fun (af : Bool) => (bif af then J1 true else bnd (ff tU ra0) fun (ay : Bool) => J1 ay)
def oc (t : aD) (dX : Int) (closed : List Int) : Option (List Int) :=
 bnd (jR fuel dX [] closed t.aI t.Links) fun (af : (List Int)) => chk (decide (af.length < 4611686018427387904)) <| some (iE af)
def gP (t : aD) (aJ : Int) : Option (List Int) :=
 bnd (fS t) fun (af : Bool) => bif !af then some [] else bnd (fL t aJ) fun (ay : (List Int)) => some ay
def mV (t : aD) (a : Int) (b : Int) : Option Bool :=
 bnd (gO t a) fun (af : Bool) => (bif af then bnd (gO t b) fun (ay : Bool) => (bif ay then bnd (oc t a []) fun (aK : (List Int)) => bnd (ff aK b) fun (bh : Bool) => some bh else some false) else some false)
end Go.Proofs.YtpmifmdidfgpdaaGreat

/- Functions of the program, written gq. No condition but bT bB stand in each. -/
namespace Go.Proofs.YtpmifmdidfgpdaaGreat
open Go
set_option maxRecDepth 100000
set_option linter.all false
def ku (n : Int) : Option Bool :=
 some ((decide (n = (8:Int))) || ((decide (n = (16:Int))) || ((decide (n = (32:Int))) || (decide (n = (64:Int))))))
def fu (n : Int) (low : Int) (high : Int) : Option Bool :=
 some ((decide (low ≤ n)) && (decide (n ≤ high)))
def gC (l : List bz) : Option Bool :=
 bif decide ((8:Int) < (l.length:Int)) then some false else bN l 0 (fun (j1 : Int) (e1 : bz) (Z1 : Unit → Option _) (sg : Unit) => match sg with | () => jn (fun (v_1 : Bool) => bif v_1 then some false else Z1 ()) fun J1 => bnd (fu e1.b9 (0:Int) (7:Int)) fun (af : Bool) => (bif !af then J1 true else bnd (fu e1.ID (1:Int) (256:Int)) fun (ay : Bool) => (bif !ay then J1 true else bnd (ku e1.Length) fun (aK : Bool) => (bif !aK then J1 true else (bif decide ((0:Int) < (j1 : Int)) then bnd (elO l (w64 ((j1 : Int) - (1:Int)))) fun (e_1 : bz) => J1 (decide (e1.b9 ≤ e_1.b9)) else J1 false))))) (fun (sg : Unit) => match sg with | () => some true) ()
def fZ (a : aj) : Option Bool :=
 jn (fun (v_1 : Bool) => bif v_1 then some false else bN a.Links 0 (fun (j1 : Int) (e1 : bu) (Z1 : Unit → Option _) (sg : Unit) => match sg with | () => jn (fun (v_2 : Bool) => bif v_2 then some false else Z1 ()) fun J2 => bnd (fu e1.bw (1:Int) (99:Int)) fun (aK : Bool) => (bif !aK then J2 true else (bif decide (e1.bw = a.ak) then J2 true else bnd (fu e1.lM (1:Int) (1000:Int)) fun (bh : Bool) => (bif !bh then J2 true else bnd (fu e1.bY (0:Int) (1000:Int)) fun (bI : Bool) => (bif !bI then J2 true else (bif decide ((0:Int) < (j1 : Int)) then bnd (elO a.Links (w64 ((j1 : Int) - (1:Int)))) fun (e_1 : bu) => J2 (decide (e1.bw ≤ e_1.bw)) else J2 false)))))) (fun (sg : Unit) => match sg with | () => bnd (gC a.Claims) fun (bV : Bool) => some bV) ()) fun J1 => bnd (fu a.ak (1:Int) (99:Int)) fun (af : Bool) => (bif !af then J1 true else bnd (fu a.Seq (1:Int) (1000000:Int)) fun (ay : Bool) => (bif !ay then J1 true else J1 (decide ((23:Int) < (a.Links.length:Int)))))
def mm (a : aj) (b : aj) : Option Bool :=
 bif ((!decide (a.ak = b.ak)) || ((!decide (a.Seq = b.Seq)) || ((!(a.aX == b.aX)) || ((!decide ((a.Links.length:Int) = (b.Links.length:Int))) || (!decide ((a.Claims.length:Int) = (b.Claims.length:Int))))))) then some false else bN a.Links 0 (fun (j1 : Int) (e1 : bu) (Z1 : Unit → Option _) (sg : Unit) => match sg with | () => bnd (elO b.Links (j1 : Int)) fun (e_1 : bu) => bif !(jE e1 e_1) then some false else Z1 ()) (fun (sg : Unit) => match sg with | () => bN a.Claims 0 (fun (j2 : Int) (e2 : bz) (Z2 : Unit → Option _) (sg : Unit) => match sg with | () => bnd (elO b.Claims (j2 : Int)) fun (e_2 : bz) => bif !(gH e2 e_2) then some false else Z2 ()) (fun (sg : Unit) => match sg with | () => some true) ()) ()
end Go.Proofs.YtpmifmdidfgpdaaGreat

/- Functions of the program, written gq. No condition but bT bB stand in each. -/
namespace Go.Proofs.YtpmifmdidfgpdaaGreat
open Go
set_option maxRecDepth 100000
set_option linter.all false
def gG (d : aF) : Option Int :=
 bif decide ((99:Int) < (d.aq.length:Int)) then some (3:Int) else bN d.aq 0 (fun (j1 : Int) (e1 : aj) (Z1 : Unit → Option _) (sg : Unit) => match sg with | () => bnd (fZ e1) fun (af : Bool) => bif !af then some (1:Int) else Z1 ()) (fun (sg : Unit) => match sg with | () => bN (List.drop 1 d.aq) 1 (fun (j2 : Int) (e2 : aj) (Z2 : Unit → Option _) (sg : Unit) => match sg with | () => bnd (elO d.aq (w64 ((j2 : Int) - (1:Int)))) fun (e_1 : aj) => bif decide (e2.ak ≤ e_1.ak) then some (25:Int) else Z2 ()) (fun (sg : Unit) => match sg with | () => some (0:Int)) ()) ()
def mo (a : aF) (b : aF) : Option Bool :=
 bif !decide ((a.aq.length:Int) = (b.aq.length:Int)) then some false else bN a.aq 0 (fun (j1 : Int) (e1 : aj) (Z1 : Unit → Option _) (sg : Unit) => match sg with | () => bnd (elO b.aq (j1 : Int)) fun (e_1 : aj) => bnd (mm e1 e_1) fun (af : Bool) => bif !af then some false else Z1 ()) (fun (sg : Unit) => match sg with | () => some true) ()
def mq (d : aF) (aJ : Int) : Option (aj × Bool) :=
 bN d.aq 0 (fun (j1 : Int) (e1 : aj) (Z1 : Unit → Option _) (sg : Unit) => match sg with | () => bif decide (e1.ak = aJ) then some (e1, true) else Z1 ()) (fun (sg : Unit) => match sg with | () => some ((aj.mk (0:Int) (0:Int) false [] []), false)) ()
end Go.Proofs.YtpmifmdidfgpdaaGreat

/- Functions of the program, written gq. No condition but bT bB stand in each. -/
namespace Go.Proofs.YtpmifmdidfgpdaaGreat
open Go
set_option maxRecDepth 100000
set_option linter.all false
end Go.Proofs.YtpmifmdidfgpdaaGreat

/- Functions of the program, written gq. No condition but bT bB stand in each. -/
namespace Go.Proofs.YtpmifmdidfgpdaaGreat
open Go
set_option maxRecDepth 100000
set_option linter.all false
def ij (n : Int) : Option Bool :=
 some ((decide (n = (8:Int))) || ((decide (n = (16:Int))) || ((decide (n = (32:Int))) || (decide (n = (64:Int))))))
def gY (n : Int) (least : Int) (most : Int) : Option Bool :=
 some ((decide (least ≤ n)) && (decide (n ≤ most)))
def gi (a : aj) : Option Bool :=
 jn (fun (v_1 : Bool) => bif v_1 then some false else bN a.Links 0 (fun (j1 : Int) (e1 : bu) (Z1 : Unit → Option _) (sg : Unit) => match sg with | () => jn (fun (v_2 : Bool) => bif v_2 then some false else Z1 ()) fun J2 => bnd (gY e1.bw (1:Int) (99:Int)) fun (aK : Bool) => (bif !aK then J2 true else (bif decide (e1.bw = a.ak) then J2 true else bnd (gY e1.lM (1:Int) (1000:Int)) fun (bh : Bool) => (bif !bh then J2 true else bnd (gY e1.bY (0:Int) (1000:Int)) fun (bI : Bool) => (bif !bI then J2 true else (bif decide ((0:Int) < (j1 : Int)) then bnd (elO a.Links (w64 ((j1 : Int) - (1:Int)))) fun (e_1 : bu) => J2 (decide (e1.bw ≤ e_1.bw)) else J2 false)))))) (fun (sg : Unit) => match sg with | () => bN a.Claims 0 (fun (j2 : Int) (e2 : bz) (Z2 : Unit → Option _) (sg : Unit) => match sg with | () => jn (fun (v_3 : Bool) => bif v_3 then some false else Z2 ()) fun J3 => bnd (gY e2.b9 (0:Int) (7:Int)) fun (bV : Bool) => (bif !bV then J3 true else bnd (gY e2.ID (1:Int) (256:Int)) fun (cD : Bool) => (bif !cD then J3 true else bnd (ij e2.Length) fun (dg : Bool) => (bif !dg then J3 true else (bif decide ((0:Int) < (j2 : Int)) then bnd (elO a.Claims (w64 ((j2 : Int) - (1:Int)))) fun (e_2 : bz) => J3 (decide (e2.b9 ≤ e_2.b9)) else J3 false))))) (fun (sg : Unit) => match sg with | () => some true) ()) ()) fun J1 => bnd (gY a.ak (1:Int) (99:Int)) fun (af : Bool) => (bif !af then J1 true else bnd (gY a.Seq (1:Int) (1000000:Int)) fun (ay : Bool) => (bif !ay then J1 true else (bif decide ((23:Int) < (a.Links.length:Int)) then J1 true else J1 (decide ((8:Int) < (a.Claims.length:Int))))))
def fT (a : List bu) (b : List bu) : Option Bool :=
 bif !decide ((a.length:Int) = (b.length:Int)) then some false else bN a 0 (fun (j1 : Int) (e1 : bu) (Z1 : Unit → Option _) (sg : Unit) => match sg with | () => bnd (elO b (j1 : Int)) fun (e_1 : bu) => bif !(jE e1 e_1) then some false else Z1 ()) (fun (sg : Unit) => match sg with | () => some true) ()
def fU (a : List bz) (b : List bz) : Option Bool :=
 bif !decide ((a.length:Int) = (b.length:Int)) then some false else bN a 0 (fun (j1 : Int) (e1 : bz) (Z1 : Unit → Option _) (sg : Unit) => match sg with | () => bnd (elO b (j1 : Int)) fun (e_1 : bz) => bif !(gH e1 e_1) then some false else Z1 ()) (fun (sg : Unit) => match sg with | () => some true) ()
def dh (s1 : List aj) (s2 : List aj) (eq : aj → aj → Option Bool) : Option Bool :=
 bif !decide ((s1.length:Int) = (s2.length:Int)) then some false else bN s1 0 (fun (j1 : Int) (e1 : aj) (Z1 : Unit → Option _) (sg : Unit) => match sg with | () => bnd (elO s2 (j1 : Int)) fun (e_1 : aj) => bnd (eq e1 e_1) fun (af : Bool) => bif !af then some false else Z1 ()) (fun (sg : Unit) => match sg with | () => some true) ()
def jG (a : aj) (b : aj) : Option Bool :=
 (bif decide (a.ak = b.ak) then (bif decide (a.Seq = b.Seq) then (bif (a.aX == b.aX) then bnd (fT a.Links b.Links) fun (af : Bool) => (bif af then bnd (fU a.Claims b.Claims) fun (ay : Bool) => some ay else some false) else some false) else some false) else some false)
def dH (sa0 : List aQ) : Option (List aQ) :=
 bnd (cM ([] : List aQ) sa0) fun (l_1 : List aQ) => some l_1
def jy  : Option (List aQ) :=
 bnd (cM ([] : List aQ) []) fun (l_1 : List aQ) => some l_1
def cW (s : List aQ) : Option (List aQ) := dH s
def dD (sa0 : List bz) : Option (List bz) :=
 bnd (cM ([] : List bz) sa0) fun (l_1 : List bz) => some l_1
def iX  : Option (List bz) :=
 bnd (cM ([] : List bz) []) fun (l_1 : List bz) => some l_1
def cN (s : List bz) : Option (List bz) := dD s
def dF (sa0 : List bu) : Option (List bu) :=
 bnd (cM ([] : List bu) sa0) fun (l_1 : List bu) => some l_1
def iY  : Option (List bu) :=
 bnd (cM ([] : List bu) []) fun (l_1 : List bu) => some l_1
def dy (s : List bu) : Option (List bu) := dF s
def eD (a : aj) : Option aj :=
 bnd (dy a.Links) fun (af : (List bu)) => bnd (cN a.Claims) fun (ay : (List bz)) => some (aj.mk a.ak a.Seq a.aX af ay)
def lD (a : aj) : Option Bool :=
 bnd (gi a) fun (af : Bool) => some (!af)
def eX (d : aF) : Option Int :=
 bif decide ((99:Int) < (d.aq.length:Int)) then some (3:Int) else bnd (cV d.aq lD) fun (af : Bool) => bif af then some (1:Int) else bN d.aq 0 (fun (j1 : Int) (e1 : aj) (Z1 : Unit → Option _) (sg : Unit) => match sg with | () => jn (fun (v_1 : Bool) => bif v_1 then some (25:Int) else Z1 ()) fun J1 => (bif decide ((0:Int) < (j1 : Int)) then bnd (elO d.aq (w64 ((j1 : Int) - (1:Int)))) fun (e_1 : aj) => J1 (decide (e1.ak ≤ e_1.ak)) else J1 false)) (fun (sg : Unit) => match sg with | () => some (0:Int)) ()
def qH (a : aF) (b : aF) : Option Bool :=
 bnd (dh a.aq b.aq jG) fun (af : Bool) => some af
def jA (d : aF) (aJ : Int) : Option (aj × Bool) :=
 bN d.aq 0 (fun (j1 : Int) (e1 : aj) (Z1 : Unit → Option _) (sg : Unit) => match sg with | () => bif decide (e1.ak = aJ) then bnd (eD e1) fun (af : aj) => some (af, true) else Z1 ()) (fun (sg : Unit) => match sg with | () => some ((aj.mk (0:Int) (0:Int) false [] []), false)) ()
end Go.Proofs.YtpmifmdidfgpdaaGreat

/- Functions of the program, written gq. No condition but bT bB stand in each. -/
namespace Go.Proofs.YtpmifmdidfgpdaaGreat
open Go
set_option maxRecDepth 100000
set_option linter.all false
def iR (t : aR) (aJ : Int) (n : Int) : Option (aj × aR) :=
 bnd (cR t ([(1:Int), (1:Int), (2:Int), (3:Int), (3:Int), (500000:Int), (1000000:Int)] : List Int)) fun (af : Int × aR) => bnd (bU af.2 (3:Int)) fun (ay : Int × aR) => gr ((7:Int) - (1:Int)).toNat (1:Int) (fun (j1 : Int) (Z1 : ((List bu) × (List Int) × Int) → Option _) (sg : (List bu) × (List Int) × Int) => match sg with | (m_1, m_2, m_3) => jn (fun (sg : (List Int) × Int × (List bu)) => match sg with | (m_4, m_5, m_6) => Z1 (m_6, m_4, m_5)) fun J1 => jn (fun (sg : Bool × (List Int) × Int) => match sg with | (v_1, m_7, m_8) => bif v_1 then bnd (dQ (aR.mk m_7 m_8) (1:Int) (3:Int)) fun (bh : Int × aR) => bnd (bU bh.2 (3:Int)) fun (bI : Int × aR) => bnd (cM m_1 ([(bu.mk (j1 : Int) bh.1 bI.1)] : List bu)) fun (l_1 : List bu) => J1 (bI.2.L, bI.2.At, l_1) else J1 (m_7, m_8, m_1)) fun J2 => (bif !decide ((j1 : Int) = aJ) then bnd (bU (aR.mk m_2 m_3) (2:Int)) fun (aK : Int × aR) => J2 (decide (aK.1 = (0:Int)), aK.2.L, aK.2.At) else J2 (false, m_2, m_3))) (fun (j1 : Int) (sg : (List bu) × (List Int) × Int) => match sg with | (m_1, m_2, m_3) => gr ((2:Int) - (0:Int)).toNat (0:Int) (fun (j2 : Int) (Z2 : ((List bz) × (List Int) × Int) → Option _) (sg : (List bz) × (List Int) × Int) => match sg with | (m_9, gu, gf) => jn (fun (sg : (List Int) × Int × (List bz)) => match sg with | (kK, sI, sJ) => Z2 (sJ, kK, sI)) fun J3 => bnd (bU (aR.mk gu gf) (2:Int)) fun (bV : Int × aR) => bif decide (bV.1 = (0:Int)) then bnd (dQ bV.2 (1:Int) (9:Int)) fun (cD : Int × aR) => bnd (iP cD.2) fun (dg : Int × aR) => bnd (cM m_9 ([(bz.mk (j2 : Int) cD.1 dg.1)] : List bz)) fun (l_2 : List bz) => J3 (dg.2.L, dg.2.At, l_2) else J3 (bV.2.L, bV.2.At, m_9)) (fun (j2 : Int) (sg : (List bz) × (List Int) × Int) => match sg with | (m_9, gu, gf) => jn (fun (sg : (List Int) × Int × Int × Int × (List bu) × (List bz)) => match sg with | (tQ, tT, qy, qz, pM, aci) => some ((aj.mk qy qz (decide ((0:Int) < ay.1)) pM aci), (aR.mk tQ tT))) fun J4 => jn (fun (sg : Bool × (List Int) × Int) => match sg with | (v_2, y9, za) => bif v_2 then bnd (bU (aR.mk y9 za) (6:Int)) fun (bQ : Int × aR) => bif decide (bQ.1 = (0:Int)) then bnd (eE bQ.2) fun (en : Int × aR) => J4 (en.2.L, en.2.At, en.1, af.1, m_1, m_9) else bif decide (bQ.1 = (1:Int)) then bnd (eE bQ.2) fun (cm : Int × aR) => J4 (cm.2.L, cm.2.At, aJ, cm.1, m_1, m_9) else bif decide (bQ.1 = (2:Int)) then bnd (cR bQ.2 ([(0:Int), aJ, (6:Int), (99:Int), (100:Int)] : List Int)) fun (gy : Int × aR) => bnd (cR gy.2 ([(0:Int), (1:Int), (1000:Int), (1001:Int)] : List Int)) fun (lg : Int × aR) => bnd (cR lg.2 ([(-1:Int), (0:Int), (1000:Int), (1001:Int)] : List Int)) fun (ko : Int × aR) => bnd (cM m_1 ([(bu.mk gy.1 lg.1 ko.1)] : List bu)) fun (l_3 : List bu) => J4 (ko.2.L, ko.2.At, aJ, af.1, l_3, m_9) else bif decide (bQ.1 = (3:Int)) then bnd (cR bQ.2 ([(-1:Int), (0:Int), (7:Int), (8:Int)] : List Int)) fun (nT : Int × aR) => bnd (cR nT.2 ([(0:Int), (1:Int), (256:Int), (257:Int)] : List Int)) fun (pe : Int × aR) => bnd (cR pe.2 ([(0:Int), (8:Int), (9:Int), (64:Int)] : List Int)) fun (pg : Int × aR) => bnd (cM m_9 ([(bz.mk nT.1 pe.1 pg.1)] : List bz)) fun (l_4 : List bz) => J4 (pg.2.L, pg.2.At, aJ, af.1, m_1, l_4) else bif decide (bQ.1 = (4:Int)) then gr ((54:Int) - (30:Int)).toNat (30:Int) (fun (j3 : Int) (Z3 : (List bu) → Option _) (vU : (List bu)) => bnd (cM vU ([(bu.mk (j3 : Int) (1:Int) (0:Int))] : List bu)) fun (l_5 : List bu) => Z3 l_5) (fun (j3 : Int) (vU : (List bu)) => J4 (bQ.2.L, bQ.2.At, aJ, af.1, vU, m_9)) m_1 else bif decide ((0:Int) < (m_1.length:Int)) then bnd (eE bQ.2) fun (lp : Int × aR) => bnd (elO m_1 (0:Int)) fun (e_1 : bu) => bnd (iL m_1 (0:Int) (bu.mk e_1.bw lp.1 e_1.bY)) fun (l_6 : List bu) => J4 (lp.2.L, lp.2.At, aJ, af.1, l_6, m_9) else J4 (bQ.2.L, bQ.2.At, aJ, af.1, m_1, m_9) else J4 (y9, za, aJ, af.1, m_1, m_9)) fun J5 => (bif decide ((0:Int) < n) then bnd (fc (aR.mk gu gf) n) fun (dB : Bool × aR) => J5 (dB.1, dB.2.L, dB.2.At) else J5 (false, gu, gf))) ([], m_2, m_3)) ([], ay.2.L, ay.2.At)
def gQ (t : aR) (n : Int) : Option (aF × aR) :=
 gr ((7:Int) - (1:Int)).toNat (1:Int) (fun (j1 : Int) (Z1 : ((List aj) × (List Int) × Int) → Option _) (sg : (List aj) × (List Int) × Int) => match sg with | (m_1, m_2, m_3) => jn (fun (sg : (List Int) × Int × (List aj)) => match sg with | (m_4, m_5, m_6) => Z1 (m_6, m_4, m_5)) fun J1 => bnd (bU (aR.mk m_2 m_3) (4:Int)) fun (af : Int × aR) => bif decide ((0:Int) < af.1) then bnd (iR af.2 (j1 : Int) (0:Int)) fun (ay : aj × aR) => bnd (cM m_1 ([ay.1] : List aj)) fun (l_1 : List aj) => J1 (ay.2.L, ay.2.At, l_1) else J1 (af.2.L, af.2.At, m_1)) (fun (j1 : Int) (sg : (List aj) × (List Int) × Int) => match sg with | (m_1, m_2, m_3) => jn (fun (sg : (List Int) × Int × (List aj)) => match sg with | (m_7, m_8, m_9) => some ((aF.mk m_9), (aR.mk m_7 m_8))) fun J2 => jn (fun (sg : Bool × (List Int) × Int) => match sg with | (v_1, gu, gf) => bif v_1 then bnd (cR (aR.mk gu gf) ([(1:Int), (6:Int), (7:Int)] : List Int)) fun (bh : Int × aR) => bnd (iR bh.2 bh.1 (2:Int)) fun (bI : aj × aR) => bnd (cM m_1 ([bI.1] : List aj)) fun (l_2 : List aj) => J2 (bI.2.L, bI.2.At, l_2) else J2 (gu, gf, m_1)) fun J3 => (bif decide ((0:Int) < n) then bnd (fc (aR.mk m_2 m_3) n) fun (aK : Bool × aR) => J3 (aK.1, aK.2.L, aK.2.At) else J3 (false, m_2, m_3))) ([], t.L, t.At)
end Go.Proofs.YtpmifmdidfgpdaaGreat

/- Functions of the program, written gq. No condition but bT bB stand in each. -/
namespace Go.Proofs.YtpmifmdidfgpdaaGreat
open Go
set_option maxRecDepth 100000
set_option linter.all false
def nv (n : Int) : Option Int :=
 some (w64 (Int.tdiv (w64 (n + (7:Int))) (8:Int)))
def kR (sa0 : aZ) : Option Bool :=
 jn (fun (v_1 : Bool) => bif v_1 then some false else (bif decide (w64 ((w64 ((8:Int) * (sa0.Data.length:Int))) - sa0.Bits) = (0:Int)) then some true else bnd (elO sa0.Data (w64 ((sa0.Data.length:Int) - (1:Int)))) fun (e_1 : Int) => chk (decide (0 ≤ w64 ((8:Int) - (w64 ((w64 ((8:Int) * (sa0.Data.length:Int))) - sa0.Bits))))) <| some (decide (IntKind.wrap .u8 (e_1 * 2 ^ min (w64 ((8:Int) - (w64 ((w64 ((8:Int) * (sa0.Data.length:Int))) - sa0.Bits)))).toNat 8) = (0:Int))))) fun J1 => (bif decide (sa0.Bits < (0:Int)) then J1 true else (bif decide ((8192:Int) < sa0.Bits) then J1 true else bnd (nv sa0.Bits) fun (af : Int) => J1 (!decide ((sa0.Data.length:Int) = af))))
def oT (sa0 : aZ) (i : Int) : Option Int :=
 bnd (elO sa0.Data (w64 (Int.tdiv i (8:Int)))) fun (e_1 : Int) => chk (decide (0 ≤ w64 ((7:Int) - (Int.tmod i (8:Int))))) <| some (IntKind.wrap .u64 (cS .and .u8 (Int.fdiv e_1 (2 ^ min (w64 ((7:Int) - (Int.tmod i (8:Int)))).toNat 8)) (1:Int)))
def nw (sa0 : aZ) (value : Int) (n : Int) : Option aZ :=
 whl (fun (Z1 : (Int × (List Int) × Int) → Option _) (sg : Int × (List Int) × Int) => match sg with | (n_1, m_1, m_2) => bif decide ((0:Int) < n_1) then jn (fun (sg : Int × (List Int)) => match sg with | (cE, m_3) => chk (decide (0 ≤ w64 (n_1 - (if cE < n_1 then cE else n_1)))) <| chk (decide (0 ≤ (if cE < n_1 then cE else n_1))) <| bnd (elO m_3 (w64 ((m_3.length:Int) - (1:Int)))) fun (e_1 : Int) => chk (decide (0 ≤ w64 (cE - (if cE < n_1 then cE else n_1)))) <| bnd (iL m_3 (w64 ((m_3.length:Int) - (1:Int))) (cS .or .u8 e_1 (IntKind.wrap .u8 (IntKind.wrap .u64 ((cS .and .u64 (Int.fdiv value (2 ^ min (w64 (n_1 - (if cE < n_1 then cE else n_1))).toNat 64)) (IntKind.wrap .u64 ((IntKind.wrap .u64 ((1:Int) * 2 ^ min (if cE < n_1 then cE else n_1).toNat 64)) - (1:Int)))) * 2 ^ min (w64 (cE - (if cE < n_1 then cE else n_1))).toNat 64))))) fun (l_2 : List Int) => Z1 (w64 (n_1 - (if cE < n_1 then cE else n_1)), l_2, w64 (m_2 + (if cE < n_1 then cE else n_1)))) fun J1 => bif decide (w64 ((w64 ((8:Int) * (m_1.length:Int))) - m_2) = (0:Int)) then bnd (cM m_1 ([(0:Int)] : List Int)) fun (l_1 : List Int) => J1 ((8:Int), l_1) else J1 (w64 ((w64 ((8:Int) * (m_1.length:Int))) - m_2), m_1) else some (aZ.mk m_1 m_2)) (n, sa0.Data, sa0.Bits)
def pE (sa0 : aZ) : Option aZ :=
 bnd (cM [] sa0.Data) fun (l_1 : List Int) => some (aZ.mk l_1 sa0.Bits)
def mw (sa0 : aZ) (value : Int) (n : Int) : Option (aZ × Int) :=
 bnd (kR sa0) fun (af : Bool) => bif !af then some ((aZ.mk [] (0:Int)), (1:Int)) else jn (fun (v_1 : Bool) => bif v_1 then some ((aZ.mk [] (0:Int)), (2:Int)) else bif decide ((8192:Int) < w64 (sa0.Bits + n)) then some ((aZ.mk [] (0:Int)), (3:Int)) else bnd (pE sa0) fun (ay : aZ) => bnd (nw ay value n) fun (aK : aZ) => some (aK, (0:Int))) fun J1 => (bif decide (n < (0:Int)) then J1 true else (bif decide ((64:Int) < n) then J1 true else (bif decide (n < (64:Int)) then chk (decide (0 ≤ n)) <| J1 (!decide (Int.fdiv value (2 ^ min n.toNat 64) = (0:Int))) else J1 false)))
def kS (sa0 : aZ) : Option (Int × Int) :=
 bnd (kR sa0) fun (af : Bool) => bif !af then some ((0:Int), (1:Int)) else chk (decide (sa0.Bits ≤ 9223372036854775807)) <| gr (sa0.Bits - (0:Int)).toNat (0:Int) (fun (j1 : Int) (Z1 : Int → Option _) (eo : Int) => jn (fun (oE : Int) => Z1 oE) fun J1 => bnd (oT sa0 (j1 : Int)) fun (ay : Int) => bif decide (Int.fdiv eo (2 ^ min (15:Int).toNat 64) = ay) then J1 (cS .and .u64 (IntKind.wrap .u64 (eo * 2 ^ min (1:Int).toNat 64)) (65535:Int)) else J1 (cS .xor .u64 (cS .and .u64 (IntKind.wrap .u64 (eo * 2 ^ min (1:Int).toNat 64)) (65535:Int)) (4129:Int))) (fun (j1 : Int) (eo : Int) => some (eo, (0:Int))) (65535:Int)
end Go.Proofs.YtpmifmdidfgpdaaGreat

/- Functions of the program, written gq. No condition but bT bB stand in each. -/
namespace Go.Proofs.YtpmifmdidfgpdaaGreat
open Go
set_option maxRecDepth 100000
set_option linter.all false
def jY (l : List Int) (i : Int) : Option Int :=
 bnd (elO l (w64 (Int.tdiv i (8:Int)))) fun (e_1 : Int) => chk (decide (0 ≤ IntKind.wrap .u64 (w64 ((7:Int) - (Int.tmod i (8:Int)))))) <| some (cS .and .u64 (IntKind.wrap .u64 (Int.fdiv e_1 (2 ^ min (IntKind.wrap .u64 (w64 ((7:Int) - (Int.tmod i (8:Int))))).toNat 8))) (1:Int))
def jH (sa0 : aZ) : Option Bool :=
 bif ((decide (sa0.Bits < (0:Int))) || ((decide ((8192:Int) < sa0.Bits)) || (!decide ((sa0.Data.length:Int) = w64 (Int.tdiv (w64 (sa0.Bits + (7:Int))) (8:Int)))))) then some false else whl (fun (Z1 : Int → Option _) (i_1 : Int) => bif decide (i_1 < w64 ((8:Int) * (sa0.Data.length:Int))) then bnd (jY sa0.Data i_1) fun (af : Int) => bif !decide (af = (0:Int)) then some false else Z1 (w64 (i_1 + (1:Int))) else some true) sa0.Bits
def nG (sa0 : aZ) (b : Int) : Option aZ :=
 bnd (cM [] sa0.Data) fun (l_1 : List Int) => jn (fun (l_2 : (List Int)) => jn (fun (l_4 : (List Int)) => some (aZ.mk l_4 (w64 (sa0.Bits + (1:Int))))) fun J2 => bif decide (b = (1:Int)) then bnd (elO l_2 (w64 (Int.tdiv sa0.Bits (8:Int)))) fun (e_1 : Int) => chk (decide (0 ≤ IntKind.wrap .u64 (w64 ((7:Int) - (Int.tmod sa0.Bits (8:Int)))))) <| bnd (iL l_2 (w64 (Int.tdiv sa0.Bits (8:Int))) (cS .or .u8 e_1 (IntKind.wrap .u8 ((1:Int) * 2 ^ min (IntKind.wrap .u64 (w64 ((7:Int) - (Int.tmod sa0.Bits (8:Int))))).toNat 8)))) fun (l_5 : List Int) => J2 l_5 else J2 l_2) fun J1 => bif decide (Int.tmod sa0.Bits (8:Int) = (0:Int)) then bnd (cM l_1 ([(0:Int)] : List Int)) fun (l_3 : List Int) => J1 l_3 else J1 l_1
def mz (sa0 : aZ) (value : Int) (n : Int) : Option (aZ × Int) :=
 bnd (jH sa0) fun (af : Bool) => bif !af then some ((aZ.mk [] (0:Int)), (1:Int)) else jn (fun (v_1 : Bool) => bif v_1 then some ((aZ.mk [] (0:Int)), (2:Int)) else bif decide ((8192:Int) < w64 (sa0.Bits + n)) then some ((aZ.mk [] (0:Int)), (3:Int)) else whl (fun (Z1 : (Int × (List Int) × Int) → Option _) (sg : Int × (List Int) × Int) => match sg with | (i_1, m_1, m_2) => bif decide ((0:Int) ≤ i_1) then chk (decide (0 ≤ IntKind.wrap .u64 i_1)) <| bnd (nG (aZ.mk m_1 m_2) (cS .and .u64 (Int.fdiv value (2 ^ min (IntKind.wrap .u64 i_1).toNat 64)) (1:Int))) fun (ay : aZ) => Z1 (w64 (i_1 - (1:Int)), ay.Data, ay.Bits) else some ((aZ.mk m_1 m_2), (0:Int))) (w64 (n - (1:Int)), sa0.Data, sa0.Bits)) fun J1 => (bif decide (n < (0:Int)) then J1 true else (bif decide ((64:Int) < n) then J1 true else (bif decide (n < (64:Int)) then chk (decide (0 ≤ IntKind.wrap .u64 n)) <| J1 (!decide (Int.fdiv value (2 ^ min (IntKind.wrap .u64 n).toNat 64) = (0:Int))) else J1 false)))
def nx (sa0 : aZ) : Option (aZ × Int) :=
 bnd (jH sa0) fun (af : Bool) => bif !af then some ((aZ.mk [] (0:Int)), (1:Int)) else whl (fun (Z1 : ((List Int) × Int) → Option _) (sg : (List Int) × Int) => match sg with | (m_1, m_2) => bif !decide (Int.tmod m_2 (8:Int) = (0:Int)) then bnd (nG (aZ.mk m_1 m_2) (0:Int)) fun (ay : aZ) => Z1 (ay.Data, ay.Bits) else some ((aZ.mk m_1 m_2), (0:Int))) (sa0.Data, sa0.Bits)
def iz (sa0 : aZ) : Option (Int × Int) :=
 bnd (jH sa0) fun (af : Bool) => bif !af then some ((0:Int), (1:Int)) else chk (decide (sa0.Bits ≤ 9223372036854775807)) <| gr (sa0.Bits - (0:Int)).toNat (0:Int) (fun (j1 : Int) (Z1 : Int → Option _) (og : Int) => jn (fun (aaB : Int) => Z1 aaB) fun J1 => bnd (jY sa0.Data (j1 : Int)) fun (ay : Int) => bif !decide (Int.fdiv og (2 ^ min (15:Int).toNat 64) = ay) then J1 (cS .xor .u64 (cS .and .u64 (IntKind.wrap .u64 (og * 2 ^ min (1:Int).toNat 64)) (65535:Int)) (4129:Int)) else J1 (cS .and .u64 (IntKind.wrap .u64 (og * 2 ^ min (1:Int).toNat 64)) (65535:Int))) (fun (j1 : Int) (og : Int) => some (og, (0:Int))) (65535:Int)
def oh (length : Int) : Option Int :=
 whl (fun (Z1 : (Int × Int) → Option _) (sg : Int × Int) => match sg with | (nh, n_1) => bif decide ((8:Int) < nh) then Z1 (w64 (Int.tdiv nh (2:Int)), w64 (n_1 + (1:Int))) else some n_1) (length, (0:Int))
end Go.Proofs.YtpmifmdidfgpdaaGreat

/- Functions of the program, written gq. No condition but bT bB stand in each. -/
namespace Go.Proofs.YtpmifmdidfgpdaaGreat
open Go
set_option maxRecDepth 100000
set_option linter.all false
def cZ (sa0 : aZ) (n : Int) (width : Int) : Option aZ :=
 bnd (mz sa0 (IntKind.wrap .u64 n) width) fun (af : aZ × Int) => some af.1
def gR (a : aj) : Option ((List Int) × Int) :=
 bnd (fZ a) fun (af : Bool) => bif !af then some ([], (1:Int)) else jn (fun (jm : Int) => bnd (cZ (aZ.mk [] (0:Int)) a.ak (7:Int)) fun (ay : aZ) => bnd (cZ ay a.Seq (20:Int)) fun (aK : aZ) => bnd (cZ aK jm (1:Int)) fun (bh : aZ) => bnd (cZ bh (a.Links.length:Int) (5:Int)) fun (bI : aZ) => bN a.Links 0 (fun (j1 : Int) (e1 : bu) (Z1 : ((List Int) × Int) → Option _) (sg : (List Int) × Int) => match sg with | (m_1, m_2) => bnd (cZ (aZ.mk m_1 m_2) e1.bw (7:Int)) fun (bV : aZ) => bnd (cZ bV e1.lM (10:Int)) fun (cD : aZ) => bnd (cZ cD e1.bY (10:Int)) fun (dg : aZ) => Z1 (dg.Data, dg.Bits)) (fun (sg : (List Int) × Int) => match sg with | (m_1, m_2) => bnd (cZ (aZ.mk m_1 m_2) (a.Claims.length:Int) (4:Int)) fun (dB : aZ) => bN a.Claims 0 (fun (j2 : Int) (e2 : bz) (Z2 : ((List Int) × Int) → Option _) (sg : (List Int) × Int) => match sg with | (m_3, m_4) => bnd (cZ (aZ.mk m_3 m_4) e2.b9 (3:Int)) fun (bQ : aZ) => bnd (cZ bQ e2.ID (9:Int)) fun (en : aZ) => bnd (oh e2.Length) fun (cm : Int) => bnd (cZ en cm (2:Int)) fun (gy : aZ) => Z2 (gy.Data, gy.Bits)) (fun (sg : (List Int) × Int) => match sg with | (m_3, m_4) => bnd (iz (aZ.mk m_3 m_4)) fun (lg : Int × Int) => bnd (cZ (aZ.mk m_3 m_4) (w64 lg.1) (16:Int)) fun (ko : aZ) => bnd (nx ko) fun (nT : aZ × Int) => some (nT.1.Data, (0:Int))) (dB.Data, dB.Bits)) (bI.Data, bI.Bits)) fun J1 => bif a.aX then J1 (1:Int) else J1 (0:Int)
def ny (a : aj) (b : aj) : Option Bool :=
 jn (fun (v_1 : Bool) => bif v_1 then some false else bnd (gR a) fun (aK : (List Int) × Int) => bnd (gR b) fun (bh : (List Int) × Int) => some ((decide (b.Seq < a.Seq)) || ((decide (a.Seq = b.Seq)) && (tK .gtr (ia aK.1) (ia bh.1))))) fun J1 => bnd (fZ a) fun (af : Bool) => (bif !af then J1 true else bnd (fZ b) fun (ay : Bool) => (bif !ay then J1 true else J1 (!decide (a.ak = b.ak))))
end Go.Proofs.YtpmifmdidfgpdaaGreat

/- Functions of the program, written gq. No condition but bT bB stand in each. -/
namespace Go.Proofs.YtpmifmdidfgpdaaGreat
open Go
set_option maxRecDepth 100000
set_option linter.all false
def bR (w : bK) (n : Int) (bits : Int) : Option bK :=
 bnd (mw w.s_ (IntKind.wrap .u64 n) bits) fun (af : aZ × Int) => some (bK.mk af.1)
def apC (a b : List Int) : Int := Go.Extern.BytealgCompare.cmp ⟨(a.map fun n => UInt8.ofNat n.toNat).toArray⟩ ⟨(b.map fun n => UInt8.ofNat n.toNat).toArray⟩
def qI (a b : List Int) : Option Int := some (apC a b)
def ep (a : aj) : Option ((List Int) × Int) :=
 bnd (gi a) fun (af : Bool) => bif !af then some ([], (1:Int)) else bnd (bR (bK.mk (aZ.mk [] (0:Int))) a.ak (7:Int)) fun (ay : bK) => bnd (bR ay a.Seq (20:Int)) fun (aK : bK) => jn (fun (jm : Int) => bnd (bR aK jm (1:Int)) fun (bh : bK) => bnd (bR bh (a.Links.length:Int) (5:Int)) fun (bI : bK) => bN a.Links 0 (fun (j1 : Int) (e1 : bu) (Z1 : ((List Int) × Int) → Option _) (sg : (List Int) × Int) => match sg with | (m_1, m_2) => bnd (bR (bK.mk (aZ.mk m_1 m_2)) e1.bw (7:Int)) fun (bV : bK) => bnd (bR bV e1.lM (10:Int)) fun (cD : bK) => bnd (bR cD e1.bY (10:Int)) fun (dg : bK) => Z1 (dg.s_.Data, dg.s_.Bits)) (fun (sg : (List Int) × Int) => match sg with | (m_1, m_2) => bnd (bR (bK.mk (aZ.mk m_1 m_2)) (a.Claims.length:Int) (4:Int)) fun (dB : bK) => bN a.Claims 0 (fun (j2 : Int) (e2 : bz) (Z2 : ((List Int) × Int) → Option _) (sg : (List Int) × Int) => match sg with | (m_3, m_4) => whl (fun (Z3 : Int → Option _) (jo : Int) => chk (decide (0 ≤ jo)) <| bif decide (IntKind.wrap .i64 ((8:Int) * 2 ^ min jo.toNat 64) < e2.Length) then Z3 (w64 (jo + (1:Int))) else bnd (bR (bK.mk (aZ.mk m_3 m_4)) e2.b9 (3:Int)) fun (bQ : bK) => bnd (bR bQ e2.ID (9:Int)) fun (en : bK) => bnd (bR en jo (2:Int)) fun (cm : bK) => Z2 (cm.s_.Data, cm.s_.Bits)) (0:Int)) (fun (sg : (List Int) × Int) => match sg with | (m_3, m_4) => bnd (kS (aZ.mk m_3 m_4)) fun (gy : Int × Int) => bnd (bR (bK.mk (aZ.mk m_3 m_4)) (w64 gy.1) (16:Int)) fun (lg : bK) => some (lg.s_.Data, (0:Int))) (dB.s_.Data, dB.s_.Bits)) (bI.s_.Data, bI.s_.Bits)) fun J1 => bif a.aX then J1 (1:Int) else J1 (0:Int)
def mA (a : aj) (b : aj) : Option Bool :=
 bnd (ep a) fun (af : (List Int) × Int) => bnd (ep b) fun (ay : (List Int) × Int) => bif ((!decide (af.2 = (0:Int))) || ((!decide (ay.2 = (0:Int))) || (!decide (a.ak = b.ak)))) then some false else (bif decide (b.Seq < a.Seq) then some true else (bif decide (a.Seq = b.Seq) then bnd (qI af.1 ay.1) fun (aK : Int) => some (decide ((0:Int) < aK)) else some false))
end Go.Proofs.YtpmifmdidfgpdaaGreat

/- Functions of the program, written gq. No condition but bT bB stand in each. -/
namespace Go.Proofs.YtpmifmdidfgpdaaGreat
open Go
set_option maxRecDepth 100000
set_option linter.all false
def kg (xa0 : aj) (aJ : Int) : Option Int :=
 bnd (dW xa0.ak aJ) fun (af : Int) => some af
def iS (d : aF) : Option aF :=
 bN d.aq 0 (fun (j1 : Int) (e1 : aj) (Z1 : (List aj) → Option _) (m_1 : (List aj)) => bnd (eD e1) fun (af : aj) => bnd (cM m_1 ([af] : List aj)) fun (l_1 : List aj) => Z1 l_1) (fun (m_1 : (List aj)) => some (aF.mk m_1)) []
def jZ (d : aF) (a : aj) : Option (Bool × aF) :=
 bnd (cC d.aq a.ak kg) fun (af : Int × Bool) => jn (fun (m_1 : (List aj)) => some (true, (aF.mk m_1))) fun J1 => bif !af.2 then bnd (eD a) fun (ay : aj) => bnd (aao d.aq af.1 ay) fun (l_1 : List aj) => J1 l_1 else bnd (elO d.aq af.1) fun (e_1 : aj) => bnd (mA a e_1) fun (aK : Bool) => bif aK then bnd (eD a) fun (bh : aj) => bnd (iL d.aq af.1 bh) fun (l_2 : List aj) => J1 l_2 else some (false, d)
def mB (d : aF) (a : aj) : Option (aF × Bool) :=
 bnd (iS d) fun (af : aF) => jn (fun (v_1 : Bool) => bif v_1 then some (af, false) else bnd (jZ af a) fun (bh : Bool × aF) => some (bh.2, bh.1)) fun J1 => bnd (eX d) fun (ay : Int) => (bif !decide (ay = (0:Int)) then J1 true else bnd (gi a) fun (aK : Bool) => J1 (!aK))
def ki (a : aF) (b : aF) : Option (aF × Int) :=
 jn (fun (v_1 : Bool) => bif v_1 then some ((aF.mk []), (1:Int)) else bnd (iS a) fun (aK : aF) => bN b.aq 0 (fun (j1 : Int) (e1 : aj) (Z1 : (List aj) → Option _) (m_1 : (List aj)) => bnd (jZ (aF.mk m_1) e1) fun (bh : Bool × aF) => Z1 bh.2.aq) (fun (m_1 : (List aj)) => some ((aF.mk m_1), (0:Int))) aK.aq) fun J1 => bnd (eX a) fun (af : Int) => (bif !decide (af = (0:Int)) then J1 true else bnd (eX b) fun (ay : Int) => J1 (!decide (ay = (0:Int))))
end Go.Proofs.YtpmifmdidfgpdaaGreat

/- Functions of the program, written gq. No condition but bT bB stand in each. -/
namespace Go.Proofs.YtpmifmdidfgpdaaGreat
open Go
set_option maxRecDepth 100000
set_option linter.all false
def oo (d : aF) (a : aj) : Option aF :=
 bN d.aq 0 (fun (j1 : Int) (e1 : aj) (Z1 : (Bool × (List aj)) → Option _) (sg : Bool × (List aj)) => match sg with | (lE, m_1) => jn (fun (sg : Bool × (List aj)) => match sg with | (vn, m_2) => Z1 (vn, m_2)) fun J1 => jn (fun (sg : Bool × (List aj)) => match sg with | (sr, m_3) => bif !decide (e1.ak = a.ak) then bnd (cM m_3 ([e1] : List aj)) fun (l_2 : List aj) => J1 (sr, l_2) else J1 (sr, m_3)) fun J2 => bif ((!lE) && (decide (a.ak ≤ e1.ak))) then bnd (cM m_1 ([a] : List aj)) fun (l_1 : List aj) => J2 (true, l_1) else J2 (lE, m_1)) (fun (sg : Bool × (List aj)) => match sg with | (lE, m_1) => jn (fun (m_4 : (List aj)) => some (aF.mk m_4)) fun J3 => bif !lE then bnd (cM m_1 ([a] : List aj)) fun (l_3 : List aj) => J3 l_3 else J3 m_1) (false, [])
def nH (d : aF) (a : aj) : Option (aF × Bool) :=
 jn (fun (v_1 : Bool) => bif v_1 then some (d, false) else bnd (mq d a.ak) fun (aK : aj × Bool) => jn (fun (v_2 : Bool) => bif v_2 then some (d, false) else bnd (oo d a) fun (bI : aF) => some (bI, true)) fun J2 => (bif aK.2 then bnd (ny a aK.1) fun (bh : Bool) => J2 (!bh) else J2 false)) fun J1 => bnd (gG d) fun (af : Int) => (bif !decide (af = (0:Int)) then J1 true else bnd (fZ a) fun (ay : Bool) => J1 (!ay))
def nA (a : aF) (b : aF) : Option (aF × Int) :=
 jn (fun (v_1 : Bool) => bif v_1 then some ((aF.mk []), (1:Int)) else bN b.aq 0 (fun (j1 : Int) (e1 : aj) (Z1 : (List aj) → Option _) (m_1 : (List aj)) => bnd (nH (aF.mk m_1) e1) fun (aK : aF × Bool) => Z1 aK.1.aq) (fun (m_1 : (List aj)) => some ((aF.mk m_1), (0:Int))) a.aq) fun J1 => bnd (gG a) fun (af : Int) => (bif !decide (af = (0:Int)) then J1 true else bnd (gG b) fun (ay : Int) => J1 (!decide (ay = (0:Int))))
end Go.Proofs.YtpmifmdidfgpdaaGreat

/- Functions of the program, written gq. No condition but bT bB stand in each. -/
namespace Go.Proofs.YtpmifmdidfgpdaaGreat
open Go
set_option maxRecDepth 100000
set_option linter.all false
def qL (t : aD) (aJ : Int) (seq : Int) (cB : List bz) : Option (aj × Int) :=
 bnd (iw t) fun (af : Int) => bif !decide (af = (0:Int)) then some ((aj.mk (0:Int) (0:Int) false [] []), (1:Int)) else bnd (oS t aJ) fun (ay : Bool) => bif !ay then some ((aj.mk (0:Int) (0:Int) false [] []), (4:Int)) else bnd (ig t aJ) fun (aK : Bool) => bnd (me t aJ) fun (bh : (List Int)) => bN bh 0 (fun (j1 : Int) (e1 : Int) (Z1 : (List bu) → Option _) (m_1 : (List bu)) => bnd (jF t aJ e1) fun (bI : Int × Bool) => bN t.Links 0 (fun (j2 : Int) (e2 : aQ) (Z2 : Int → Option _) (m_2 : Int) => jn (fun (m_3 : Int) => Z2 m_3) fun J1 => bif ((decide (e2.A = (if e1 < aJ then e1 else aJ))) && (decide (e2.B = (if e1 > aJ then e1 else aJ)))) then J1 e2.bY else J1 m_2) (fun (m_2 : Int) => bnd (cM m_1 ([(bu.mk e1 bI.1 m_2)] : List bu)) fun (l_1 : List bu) => Z1 l_1) (0:Int)) (fun (m_1 : (List bu)) => bnd (fZ (aj.mk aJ seq aK m_1 cB)) fun (bV : Bool) => bif !bV then some ((aj.mk (0:Int) (0:Int) false [] []), (2:Int)) else some ((aj.mk aJ seq aK m_1 cB), (0:Int))) []
end Go.Proofs.YtpmifmdidfgpdaaGreat

/- Functions of the program, written gq. No condition but bT bB stand in each. -/
namespace Go.Proofs.YtpmifmdidfgpdaaGreat
open Go
set_option maxRecDepth 100000
set_option linter.all false
def oU (t : aD) (aJ : Int) (seq : Int) (cB : List bz) : Option (aj × Int) :=
 bnd (fR t) fun (af : Int) => bif !decide (af = (0:Int)) then some ((aj.mk (0:Int) (0:Int) false [] []), (1:Int)) else bnd (gO t aJ) fun (ay : Bool) => bif !ay then some ((aj.mk (0:Int) (0:Int) false [] []), (4:Int)) else bnd (jl t aJ) fun (aK : Bool) => bnd (cM [] cB) fun (l_1 : List bz) => bN t.Links 0 (fun (j1 : Int) (e1 : aQ) (Z1 : (List bu) → Option _) (m_1 : (List bu)) => jn (fun (m_2 : (List bu)) => Z1 m_2) fun J1 => bif decide (aJ = e1.A) then bnd (cM m_1 ([(bu.mk e1.B e1.ja e1.bY)] : List bu)) fun (l_2 : List bu) => J1 l_2 else bif decide (aJ = e1.B) then bnd (cM m_1 ([(bu.mk e1.A e1.iF e1.bY)] : List bu)) fun (l_3 : List bu) => J1 l_3 else J1 m_1) (fun (m_1 : (List bu)) => bnd (gi (aj.mk aJ seq aK m_1 l_1)) fun (bh : Bool) => bif !bh then some ((aj.mk (0:Int) (0:Int) false [] []), (2:Int)) else some ((aj.mk aJ seq aK m_1 l_1), (0:Int))) []
end Go.Proofs.YtpmifmdidfgpdaaGreat

/- Functions of the program, written gq. No condition but bT bB stand in each. -/
namespace Go.Proofs.YtpmifmdidfgpdaaGreat
open Go
set_option maxRecDepth 100000
set_option linter.all false
def dI (f : aB) : Option aD :=
 bnd (cW f.Links) fun (af : (List aQ)) => bN f.aC 0 (fun (j1 : Int) (e1 : aV) (Z1 : (List aY) → Option _) (m_1 : (List aY)) => bnd (cM m_1 ([(aY.mk e1.ak e1.aX)] : List aY)) fun (l_1 : List aY) => Z1 l_1) (fun (m_1 : (List aY)) => some (aD.mk m_1 af)) []
def lY (n : aV) (c_0 : Int) : Option Bool :=
 some (decide (n.ak = c_0))
def fI (f : aB) (aJ : Int) : Option (Int × Bool) :=
 bnd (dY f.aC (fun (y0 : aV) => lY y0 aJ)) fun (af : Int) => some (af, decide ((0:Int) ≤ af))
def eY (f : aB) : Option Int :=
 jn (fun (v_1 : Bool) => bif v_1 then some (1:Int) else bN f.aC 0 (fun (j1 : Int) (e1 : aV) (Z1 : Unit → Option _) (sg : Unit) => match sg with | () => jn (fun (v_2 : Bool) => bif v_2 then some (1:Int) else Z1 ()) fun J2 => (bif decide (e1.Seq < (0:Int)) then J2 true else (bif decide ((1000000:Int) < e1.Seq) then J2 true else bnd (gi (aj.mk e1.ak (1:Int) false [] e1.Claims)) fun (aK : Bool) => (bif !aK then J2 true else bnd (eX e1.Database) fun (bh : Int) => J2 (!decide (bh = (0:Int))))))) (fun (sg : Unit) => match sg with | () => bN f.aA 0 (fun (j2 : Int) (e2 : bn) (Z2 : Unit → Option _) (sg : Unit) => match sg with | () => bnd (fI f e2.gW) fun (bI : Int × Bool) => bnd (fI f e2.To) fun (bV : Int × Bool) => jn (fun (v_3 : Bool) => bif v_3 then some (1:Int) else Z2 ()) fun J3 => (bif !bI.2 then J3 true else (bif !bV.2 then J3 true else (bif decide (e2.gW = e2.To) then J3 true else bnd (eX e2.Database) fun (cD : Int) => J3 (!decide (cD = (0:Int))))))) (fun (sg : Unit) => match sg with | () => some (0:Int)) ()) ()) fun J1 => bnd (dI f) fun (af : aD) => bnd (fR af) fun (ay : Int) => (bif !decide (ay = (0:Int)) then J1 true else J1 (decide ((400:Int) < (f.aA.length:Int))))
def iT (f : aB) (n : aV) : Option (aj × Bool) :=
 bif decide (n.Seq = (0:Int)) then some ((aj.mk (0:Int) (0:Int) false [] []), false) else bnd (dI f) fun (af : aD) => bnd (oU af n.ak n.Seq n.Claims) fun (ay : aj × Int) => some (ay.1, decide (ay.2 = (0:Int)))
def ec (d : aF) : Option aF :=
 bN d.aq 0 (fun (j1 : Int) (e1 : aj) (Z1 : (List aj) → Option _) (m_1 : (List aj)) => bnd (dy e1.Links) fun (af : (List bu)) => bnd (cN e1.Claims) fun (ay : (List bz)) => bnd (cM m_1 ([(aj.mk e1.ak e1.Seq e1.aX af ay)] : List aj)) fun (l_1 : List aj) => Z1 l_1) (fun (m_1 : (List aj)) => some (aF.mk m_1)) []
def gL (f : aB) : Option aB :=
 bnd (cW f.Links) fun (af : (List aQ)) => bN f.aC 0 (fun (j1 : Int) (e1 : aV) (Z1 : (List aV) → Option _) (m_1 : (List aV)) => bnd (cN e1.Claims) fun (ay : (List bz)) => bnd (ec e1.Database) fun (aK : aF) => bnd (cM m_1 ([(aV.mk e1.ak e1.Seq e1.aX ay aK)] : List aV)) fun (l_1 : List aV) => Z1 l_1) (fun (m_1 : (List aV)) => bN f.aA 0 (fun (j2 : Int) (e2 : bn) (Z2 : (List bn) → Option _) (m_2 : (List bn)) => bnd (ec e2.Database) fun (bh : aF) => bnd (cM m_2 ([(bn.mk e2.gW e2.To bh)] : List bn)) fun (l_2 : List bn) => Z2 l_2) (fun (m_2 : (List bn)) => some (aB.mk af m_1 m_2)) []) []
def oq (f : aB) : Option Bool :=
 jn (fun (v_1 : Bool) => bif v_1 then some false else bnd (dI f) fun (ay : aD) => bN f.aC 0 (fun (j1 : Int) (e1 : aV) (Z1 : Unit → Option _) (sg : Unit) => match sg with | () => bnd (iT f e1) fun (aK : aj × Bool) => bnd (jA e1.Database e1.ak) fun (bh : aj × Bool) => jn (fun (v_2 : Bool) => bif v_2 then some false else bnd (kJ f.aC (0:Int) (j1 : Int)) fun (l_1 : List aV) => bN l_1 0 (fun (j2 : Int) (e2 : aV) (Z2 : Unit → Option _) (sg : Unit) => match sg with | () => jn (fun (v_3 : Bool) => bif v_3 then some false else Z2 ()) fun J3 => bnd (mV ay e2.ak e1.ak) fun (bV : Bool) => (bif bV then bnd (qH e2.Database e1.Database) fun (cD : Bool) => J3 (!cD) else J3 false)) (fun (sg : Unit) => match sg with | () => Z1 ()) ()) fun J2 => (bif !aK.2 then J2 true else (bif !bh.2 then J2 true else bnd (jG aK.1 bh.1) fun (bI : Bool) => J2 (!bI)))) (fun (sg : Unit) => match sg with | () => some true) ()) fun J1 => bnd (eY f) fun (af : Int) => (bif !decide (af = (0:Int)) then J1 true else J1 (decide ((0:Int) < (f.aA.length:Int))))
end Go.Proofs.YtpmifmdidfgpdaaGreat

/- Functions of the program, written gq. No condition but bT bB stand in each. -/
namespace Go.Proofs.YtpmifmdidfgpdaaGreat
open Go
set_option maxRecDepth 100000
set_option linter.all false
def dz (m : aL) (i : Int) : Option aL :=
 bnd (elO m.f_.aC i) fun (e_1 : aV) => bnd (iT m.f_ e_1) fun (af : aj × Bool) => bif af.2 then bnd (mB e_1.Database af.1) fun (ay : aF × Bool) => bnd (iL m.f_.aC i (aV.mk e_1.ak e_1.Seq e_1.aX e_1.Claims ay.1)) fun (l_1 : List aV) => some (aL.mk (aB.mk m.f_.Links l_1 m.f_.aA)) else some m
def gm (m : aL) (i : Int) : Option aL :=
 bnd (elO m.f_.aC i) fun (e_1 : aV) => bnd (dI m.f_) fun (af : aD) => bnd (gP af e_1.ak) fun (ay : (List Int)) => bN ay 0 (fun (j1 : Int) (e1 : Int) (Z1 : (List bn) → Option _) (m_1 : (List bn)) => bnd (ec e_1.Database) fun (aK : aF) => bnd (cM m_1 ([(bn.mk e_1.ak e1 aK)] : List bn)) fun (l_1 : List bn) => Z1 l_1) (fun (m_1 : (List bn)) => some (aL.mk (aB.mk m.f_.Links m.f_.aC m_1))) m.f_.aA
def ef (m : aL) (k : Int) : Option aL :=
 bnd (elO m.f_.aA k) fun (e_1 : bn) => bnd (yS m.f_.aA k (w64 (k + (1:Int)))) fun (l_1 : List bn) => bnd (dI (aB.mk m.f_.Links m.f_.aC l_1)) fun (af : aD) => bnd (jx af e_1.gW e_1.To) fun (ay : Int × Bool) => bif !ay.2 then some (aL.mk (aB.mk m.f_.Links m.f_.aC l_1)) else bnd (fI (aB.mk m.f_.Links m.f_.aC l_1) e_1.To) fun (aK : Int × Bool) => bnd (elO m.f_.aC aK.1) fun (e_2 : aV) => bnd (ki e_2.Database e_1.Database) fun (bh : aF × Int) => bnd (iL m.f_.aC aK.1 (aV.mk e_2.ak e_2.Seq e_2.aX e_2.Claims bh.1)) fun (l_2 : List aV) => bnd (elO l_2 aK.1) fun (e_3 : aV) => bnd (jA e_3.Database e_3.ak) fun (bI : aj × Bool) => bnd (iT (aB.mk m.f_.Links l_2 l_1) e_3) fun (bV : aj × Bool) => jn (fun (v_1 : Bool) => bif v_1 then bnd (iL l_2 aK.1 (aV.mk e_3.ak (w64 (bI.1.Seq + (1:Int))) e_3.aX e_3.Claims e_3.Database)) fun (l_3 : List aV) => bnd (dz (aL.mk (aB.mk m.f_.Links l_3 l_1)) aK.1) fun (dg : aL) => some dg else some (aL.mk (aB.mk m.f_.Links l_2 l_1))) fun J1 => (bif bI.2 then (bif !bV.2 then J1 (decide (bI.1.Seq < (1000000:Int))) else bnd (jG bI.1 bV.1) fun (cD : Bool) => (bif !cD then J1 (decide (bI.1.Seq < (1000000:Int))) else J1 false)) else J1 false)
def eG (m : aL) : Option aL :=
 whl (fun (Z1 : ((List aQ) × (List aV) × (List bn)) → Option _) (sg : (List aQ) × (List aV) × (List bn)) => match sg with | (m_1, m_2, m_3) => bif decide ((0:Int) < (m_3.length:Int)) then bnd (ef (aL.mk (aB.mk m_1 m_2 m_3)) (0:Int)) fun (af : aL) => Z1 (af.f_.Links, af.f_.aC, af.f_.aA) else some (aL.mk (aB.mk m_1 m_2 m_3))) (m.f_.Links, m.f_.aC, m.f_.aA)
def fh (m : aL) : Option aL :=
 bN m.f_.aC 0 (fun (j1 : Int) (e1 : aV) (Z1 : ((List aQ) × (List aV) × (List bn)) → Option _) (sg : (List aQ) × (List aV) × (List bn)) => match sg with | (m_1, m_2, m_3) => bnd (gm (aL.mk (aB.mk m_1 m_2 m_3)) (j1 : Int)) fun (af : aL) => Z1 (af.f_.Links, af.f_.aC, af.f_.aA)) (fun (sg : (List aQ) × (List aV) × (List bn)) => match sg with | (m_1, m_2, m_3) => some (aL.mk (aB.mk m_1 m_2 m_3))) (m.f_.Links, m.f_.aC, m.f_.aA)
end Go.Proofs.YtpmifmdidfgpdaaGreat

/- Functions of the program, written gq. No condition but bT bB stand in each. -/
namespace Go.Proofs.YtpmifmdidfgpdaaGreat
open Go
set_option maxRecDepth 100000
set_option linter.all false
def ni (f : aB) (aJ : Int) : Option (aL × Int × Int) :=
 bnd (eY f) fun (af : Int) => bif !decide (af = (0:Int)) then none else bnd (fI f aJ) fun (ay : Int × Bool) => bif !ay.2 then none else bnd (gL f) fun (aK : aB) => some ((aL.mk aK), ay.1, (0:Int))
def nQ (f : aB) (aJ : Int) : Option (Int × Int) :=
 bnd (eY f) fun (af : Int) => bif !decide (af = (0:Int)) then some ((0:Int), (1:Int)) else bnd (fI f aJ) fun (ay : Int × Bool) => bif !ay.2 then some ((0:Int), (4:Int)) else bnd (gL f) fun (aK : aB) => none
def ot (oa0 : fQ) (c_0 : aD) : Option Bool :=
 bnd (gO c_0 oa0.ak) fun (af : Bool) => some (!af)
def pO (t : aD) (cB : List fQ) : Option (aB × Int) :=
 bnd (fR t) fun (af : Int) => bif !decide (af = (0:Int)) then some ((aB.mk [] [] []), (1:Int)) else bnd (eF cB (fun (y0 : fQ) => ot y0 t)) fun (ay : Bool) => bif ay then some ((aB.mk [] [] []), (4:Int)) else bN cB 0 (fun (j1 : Int) (e1 : fQ) (Z1 : Unit → Option _) (sg : Unit) => match sg with | () => jn (fun (v_1 : Bool) => bif v_1 then some ((aB.mk [] [] []), (25:Int)) else Z1 ()) fun J1 => (bif decide ((0:Int) < (j1 : Int)) then bnd (elO cB (w64 ((j1 : Int) - (1:Int)))) fun (e_1 : fQ) => bnd (dW e_1.ak e1.ak) fun (aK : Int) => bnd (dW e_1.Claim.b9 e1.Claim.b9) fun (bh : Int) => bnd (mg ([aK, bh] : List Int)) fun (bI : Int) => J1 (decide ((0:Int) ≤ bI)) else J1 false)) (fun (sg : Unit) => match sg with | () => bnd (cW t.Links) fun (bV : (List aQ)) => bN t.aI 0 (fun (j2 : Int) (e2 : aY) (Z2 : (List aV) → Option _) (m_1 : (List aV)) => bN cB 0 (fun (j3 : Int) (e3 : fQ) (Z3 : (List bz) → Option _) (m_2 : (List bz)) => jn (fun (m_3 : (List bz)) => Z3 m_3) fun J2 => bif decide (e3.ak = e2.ID) then bnd (cM m_2 ([e3.Claim] : List bz)) fun (l_1 : List bz) => J2 l_1 else J2 m_2) (fun (m_2 : (List bz)) => bnd (cM m_1 ([(aV.mk e2.ID (0:Int) e2.aX m_2 (aF.mk []))] : List aV)) fun (l_2 : List aV) => Z2 l_2) []) (fun (m_1 : (List aV)) => bnd (eY (aB.mk bV m_1 [])) fun (cD : Int) => bif !decide (cD = (0:Int)) then some ((aB.mk [] [] []), (1:Int)) else some ((aB.mk bV m_1 []), (0:Int))) []) ()
def jT (f : aB) (aJ : Int) : Option (aB × Int) :=
 els (ni f aJ) (fun af => bif !decide (af.2.2 = (0:Int)) then some ((aB.mk [] [] []), af.2.2) else bnd (elO af.1.f_.aC af.2.1) fun (e_1 : aV) => bif decide (e_1.Seq = (1000000:Int)) then some ((aB.mk [] [] []), (7:Int)) else bnd (iL af.1.f_.aC af.2.1 (aV.mk e_1.ak (w64 (e_1.Seq + (1:Int))) e_1.aX e_1.Claims e_1.Database)) fun (l_1 : List aV) => bnd (dz (aL.mk (aB.mk af.1.f_.Links l_1 af.1.f_.aA)) af.2.1) fun (ay : aL) => some (ay.f_, (0:Int))) <| bnd (nQ f aJ) fun aK => bif !decide (aK.2 = (0:Int)) then some ((aB.mk [] [] []), aK.2) else none
def iU (f : aB) : Option (aB × Int) :=
 bnd (eY f) fun (af : Int) => bif !decide (af = (0:Int)) then some ((aB.mk [] [] []), (1:Int)) else bnd (gL f) fun (ay : aB) => bnd (eG (aL.mk ay)) fun (aK : aL) => bnd (fh aK) fun (bh : aL) => bnd (eG bh) fun (bI : aL) => some (bI.f_, (0:Int))
end Go.Proofs.YtpmifmdidfgpdaaGreat

/- Functions of the program, written gq. No condition but bT bB stand in each. -/
namespace Go.Proofs.YtpmifmdidfgpdaaGreat
open Go
set_option maxRecDepth 100000
set_option linter.all false
def ez (f : aB) : Option aD :=
 bN f.aC 0 (fun (j1 : Int) (e1 : aV) (Z1 : (List aY) → Option _) (m_1 : (List aY)) => bnd (cM m_1 ([(aY.mk e1.ak e1.aX)] : List aY)) fun (l_1 : List aY) => Z1 l_1) (fun (m_1 : (List aY)) => some (aD.mk m_1 f.Links)) []
def iA (f : aB) (aJ : Int) : Option Int :=
 bN f.aC 0 (fun (j1 : Int) (e1 : aV) (Z1 : Unit → Option _) (sg : Unit) => match sg with | () => bif decide (e1.ak = aJ) then some (j1 : Int) else Z1 ()) (fun (sg : Unit) => match sg with | () => some (-1:Int)) ()
def kT (f : aB) : Option Bool :=
 jn (fun (v_1 : Bool) => bif v_1 then some false else bN f.aC 0 (fun (j1 : Int) (e1 : aV) (Z1 : Unit → Option _) (sg : Unit) => match sg with | () => jn (fun (v_2 : Bool) => bif v_2 then some false else Z1 ()) fun J2 => (bif decide (e1.Seq < (0:Int)) then J2 true else (bif decide ((1000000:Int) < e1.Seq) then J2 true else bnd (gC e1.Claims) fun (aK : Bool) => (bif !aK then J2 true else bnd (gG e1.Database) fun (bh : Int) => J2 (!decide (bh = (0:Int))))))) (fun (sg : Unit) => match sg with | () => bN f.aA 0 (fun (j2 : Int) (e2 : bn) (Z2 : Unit → Option _) (sg : Unit) => match sg with | () => jn (fun (v_3 : Bool) => bif v_3 then some false else Z2 ()) fun J3 => bnd (iA f e2.gW) fun (bI : Int) => (bif decide (bI < (0:Int)) then J3 true else bnd (iA f e2.To) fun (bV : Int) => (bif decide (bV < (0:Int)) then J3 true else (bif decide (e2.gW = e2.To) then J3 true else bnd (gG e2.Database) fun (cD : Int) => J3 (!decide (cD = (0:Int))))))) (fun (sg : Unit) => match sg with | () => some true) ()) ()) fun J1 => bnd (ez f) fun (af : aD) => bnd (iw af) fun (ay : Int) => (bif !decide (ay = (0:Int)) then J1 true else J1 (decide ((400:Int) < (f.aA.length:Int))))
def nI (f : aB) (i : Int) (seq : Int) : Option (aj × Bool) :=
 bnd (ez f) fun (af : aD) => bnd (elO f.aC i) fun (e_1 : aV) => bnd (qL af e_1.ak seq e_1.Claims) fun (ay : aj × Int) => some (ay.1, decide (ay.2 = (0:Int)))
def mC (f : aB) (i : Int) (n : aV) : Option aB :=
 bnd (cM [] f.aC) fun (l_1 : List aV) => bnd (elO l_1 i) fun (e_1 : aV) => bnd (iL l_1 i n) fun (l_2 : List aV) => some (aB.mk f.Links l_2 f.aA)
def jJ (f : aB) (i : Int) (seq : Int) : Option aB :=
 bnd (elO f.aC i) fun (e_1 : aV) => bnd (nI f i seq) fun (af : aj × Bool) => bnd (nH e_1.Database af.1) fun (ay : aF × Bool) => bnd (mC f i (aV.mk e_1.ak seq e_1.aX e_1.Claims ay.1)) fun (aK : aB) => some aK
def mD (f : aB) (aJ : Int) : Option (aB × Int) :=
 bnd (kT f) fun (af : Bool) => bif !af then some ((aB.mk [] [] []), (1:Int)) else bnd (iA f aJ) fun (ay : Int) => bif decide (ay < (0:Int)) then some ((aB.mk [] [] []), (4:Int)) else bnd (ez f) fun (aK : aD) => bnd (me aK aJ) fun (bh : (List Int)) => bif decide ((400:Int) < w64 ((f.aA.length:Int) + (bh.length:Int))) then some ((aB.mk [] [] []), (3:Int)) else bnd (cM [] f.aA) fun (l_1 : List bn) => bN bh 0 (fun (j1 : Int) (e1 : Int) (Z1 : (List bn) → Option _) (l_2 : (List bn)) => bnd (elO f.aC ay) fun (e_1 : aV) => bnd (cM l_2 ([(bn.mk aJ e1 e_1.Database)] : List bn)) fun (l_3 : List bn) => Z1 l_3) (fun (l_2 : (List bn)) => some ((aB.mk f.Links f.aC l_2), (0:Int))) l_1
def lF (f : aB) (k : Int) : Option aB :=
 bnd (kJ f.aA (0:Int) k) fun (l_1 : List bn) => bnd (cM [] l_1) fun (l_2 : List bn) => bnd (kJ f.aA (w64 (k + (1:Int))) (f.aA.length:Int)) fun (l_3 : List bn) => bnd (cM l_2 l_3) fun (l_4 : List bn) => some (aB.mk f.Links f.aC l_4)
def iV (f : aB) (m : bn) : Option aB :=
 bnd (ez f) fun (af : aD) => bnd (jF af m.gW m.To) fun (ay : Int × Bool) => bif !ay.2 then some f else bnd (iA f m.To) fun (aK : Int) => bnd (elO f.aC aK) fun (e_1 : aV) => bnd (nA e_1.Database m.Database) fun (bh : aF × Int) => bnd (mC f aK (aV.mk e_1.ak e_1.Seq e_1.aX e_1.Claims bh.1)) fun (bI : aB) => bnd (mq bh.1 m.To) fun (bV : aj × Bool) => bif !bV.2 then some bI else bnd (nI bI aK e_1.Seq) fun (cD : aj × Bool) => jn (fun (v_1 : Bool) => bif v_1 then some bI else bnd (jJ bI aK (w64 (bV.1.Seq + (1:Int)))) fun (dB : aB) => some dB) fun J1 => (bif decide ((0:Int) < e_1.Seq) then (bif cD.2 then bnd (mm bV.1 cD.1) fun (dg : Bool) => (bif dg then J1 true else J1 (decide ((1000000:Int) < w64 (bV.1.Seq + (1:Int))))) else J1 (decide ((1000000:Int) < w64 (bV.1.Seq + (1:Int))))) else J1 (decide ((1000000:Int) < w64 (bV.1.Seq + (1:Int)))))
def jK (f : aB) : Option aB :=
 whl (fun (Z1 : ((List aQ) × (List aV) × (List bn)) → Option _) (sg : (List aQ) × (List aV) × (List bn)) => match sg with | (m_1, m_2, m_3) => bif decide ((0:Int) < (m_3.length:Int)) then bnd (elO m_3 (0:Int)) fun (e_1 : bn) => bnd (lF (aB.mk m_1 m_2 m_3) (0:Int)) fun (af : aB) => bnd (iV af e_1) fun (ay : aB) => Z1 (ay.Links, ay.aC, ay.aA) else some (aB.mk m_1 m_2 m_3)) (f.Links, f.aC, f.aA)
def nB (f : aB) : Option (aB × Int) :=
 bnd (kT f) fun (af : Bool) => bif !af then some ((aB.mk [] [] []), (1:Int)) else bnd (jK f) fun (ay : aB) => whl (fun (Z1 : (Int × (List aQ) × (List aV) × (List bn)) → Option _) (sg : Int × (List aQ) × (List aV) × (List bn)) => match sg with | (i_1, m_1, m_2, m_3) => bif decide (i_1 < (m_2.length:Int)) then bnd (elO m_2 i_1) fun (e_1 : aV) => bnd (mD (aB.mk m_1 m_2 m_3) e_1.ak) fun (aK : aB × Int) => Z1 (w64 (i_1 + (1:Int)), aK.1.Links, aK.1.aC, aK.1.aA) else bnd (jK (aB.mk m_1 m_2 m_3)) fun (bh : aB) => some (bh, (0:Int))) ((0:Int), ay.Links, ay.aC, ay.aA)
def ou (a : aB) (b : aB) : Option Bool :=
 jn (fun (v_1 : Bool) => bif v_1 then some false else bN a.aC 0 (fun (j1 : Int) (e1 : aV) (Z1 : Unit → Option _) (sg : Unit) => match sg with | () => bnd (elO b.aC (j1 : Int)) fun (e_1 : aV) => jn (fun (v_2 : Bool) => bif v_2 then some false else bN e1.Claims 0 (fun (j2 : Int) (e2 : bz) (Z2 : Unit → Option _) (sg : Unit) => match sg with | () => bnd (elO e_1.Claims (j2 : Int)) fun (e_2 : bz) => bif !(gH e2 e_2) then some false else Z2 ()) (fun (sg : Unit) => match sg with | () => Z1 ()) ()) fun J2 => (bif !decide (e1.Seq = e_1.Seq) then J2 true else bnd (mo e1.Database e_1.Database) fun (bh : Bool) => (bif !bh then J2 true else J2 (!decide ((e1.Claims.length:Int) = (e_1.Claims.length:Int)))))) (fun (sg : Unit) => match sg with | () => bN a.aA 0 (fun (j3 : Int) (e3 : bn) (Z3 : Unit → Option _) (sg : Unit) => match sg with | () => bnd (elO b.aA (j3 : Int)) fun (e_3 : bn) => jn (fun (v_3 : Bool) => bif v_3 then some false else Z3 ()) fun J3 => (bif !decide (e3.gW = e_3.gW) then J3 true else (bif !decide (e3.To = e_3.To) then J3 true else bnd (mo e3.Database e_3.Database) fun (bI : Bool) => J3 (!bI)))) (fun (sg : Unit) => match sg with | () => some true) ()) ()) fun J1 => bnd (ez a) fun (af : aD) => bnd (ez b) fun (ay : aD) => bnd (n9 af ay) fun (aK : Bool) => (bif !aK then J1 true else J1 (!decide ((a.aA.length:Int) = (b.aA.length:Int))))
end Go.Proofs.YtpmifmdidfgpdaaGreat

/- Functions of the program, written gq. No condition but bT bB stand in each. -/
namespace Go.Proofs.YtpmifmdidfgpdaaGreat
open Go
set_option maxRecDepth 100000
set_option linter.all false
def kU (t : aR) (most : Int) : Option (aF × aR) :=
 bnd (bU t (3:Int)) fun (af : Int × aR) => bif decide (af.1 = (0:Int)) then some ((aF.mk []), af.2) else bnd (gQ af.2 (0:Int)) fun (ay : aF × aR) => whl (fun (Z1 : (Int × (List aj)) → Option _) (sg : Int × (List aj)) => match sg with | (i_1, m_1) => bif decide (i_1 < (m_1.length:Int)) then bnd (elO m_1 i_1) fun (e_1 : aj) => bnd (iL m_1 i_1 (aj.mk e_1.ak (if most < e_1.Seq then most else e_1.Seq) e_1.aX e_1.Links e_1.Claims)) fun (l_1 : List aj) => Z1 (w64 (i_1 + (1:Int)), l_1) else some ((aF.mk m_1), ay.2)) ((0:Int), ay.1.aq)
def jB (t : aR) (mE : Int) (most : Int) : Option (aB × aR) :=
 bnd (jj t mE (0:Int)) fun (af : aD × aR) => bN af.1.aI 0 (fun (j1 : Int) (e1 : aY) (Z1 : ((List aV) × (List Int) × Int) → Option _) (sg : (List aV) × (List Int) × Int) => match sg with | (m_1, m_2, m_3) => bnd (cR (aR.mk m_2 m_3) ([(0:Int), (1:Int), (1:Int), (2:Int), (400000:Int)] : List Int)) fun (ay : Int × aR) => bnd (bU ay.2 (5:Int)) fun (aK : Int × aR) => bnd (kU aK.2 most) fun (bh : aF × aR) => gr ((2:Int) - (0:Int)).toNat (0:Int) (fun (j2 : Int) (Z2 : ((List bz) × (List Int) × Int) → Option _) (sg : (List bz) × (List Int) × Int) => match sg with | (m_4, m_5, m_6) => jn (fun (sg : (List Int) × Int × (List bz)) => match sg with | (m_7, m_8, m_9) => Z2 (m_9, m_7, m_8)) fun J1 => bnd (bU (aR.mk m_5 m_6) (2:Int)) fun (bI : Int × aR) => bif decide (bI.1 = (0:Int)) then bnd (dQ bI.2 (1:Int) (6:Int)) fun (bV : Int × aR) => bnd (iP bV.2) fun (cD : Int × aR) => bnd (cM m_4 ([(bz.mk (j2 : Int) bV.1 cD.1)] : List bz)) fun (l_1 : List bz) => J1 (cD.2.L, cD.2.At, l_1) else J1 (bI.2.L, bI.2.At, m_4)) (fun (j2 : Int) (sg : (List bz) × (List Int) × Int) => match sg with | (m_4, m_5, m_6) => bnd (cM m_1 ([(aV.mk e1.ID (if ay.1 < most then ay.1 else most) (decide ((0:Int) < aK.1)) m_4 bh.1)] : List aV)) fun (l_2 : List aV) => Z1 (l_2, m_5, m_6)) ([], bh.2.L, bh.2.At)) (fun (sg : (List aV) × (List Int) × Int) => match sg with | (m_1, m_2, m_3) => bnd (bU (aR.mk m_2 m_3) (4:Int)) fun (dg : Int × aR) => whl (fun (Z3 : (Int × (List bn) × (List Int) × Int) → Option _) (sg : Int × (List bn) × (List Int) × Int) => match sg with | (i_1, gu, gf, kK) => bif ((decide ((0:Int) < i_1)) && (decide ((1:Int) < (af.1.aI.length:Int)))) then bnd (bU (aR.mk gf kK) (af.1.aI.length:Int)) fun (dB : Int × aR) => bnd (dQ dB.2 (1:Int) (w64 ((af.1.aI.length:Int) - (1:Int)))) fun (bQ : Int × aR) => bnd (rG (w64 (dB.1 + bQ.1)) (af.1.aI.length:Int)) fun (en : Int) => bnd (elO af.1.aI dB.1) fun (e_1 : aY) => bnd (elO af.1.aI en) fun (e_2 : aY) => bnd (kU bQ.2 most) fun (cm : aF × aR) => bnd (cM gu ([(bn.mk e_1.ID e_2.ID cm.1)] : List bn)) fun (l_3 : List bn) => Z3 (w64 (i_1 - (1:Int)), l_3, cm.2.L, cm.2.At) else some ((aB.mk af.1.Links m_1 gu), (aR.mk gf kK))) (dg.1, [], dg.2.L, dg.2.At)) ([], af.2.L, af.2.At)
end Go.Proofs.YtpmifmdidfgpdaaGreat
