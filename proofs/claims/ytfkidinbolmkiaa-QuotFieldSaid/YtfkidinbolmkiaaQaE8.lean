/-
  EQUATIONS of the reckoned code: printed by program.
-/
import Derived.Test.YtfkidinbolmkiaaQaTab
import Derived.Test.YtfkidinbolmkiaaAw4
set_option linter.unusedSimpArgs false
set_option linter.unusedVariables false
set_option maxRecDepth 100000
namespace Go.Proofs.Aw.Qa
open Go.Proofs

theorem p6b (n : Nat) (s0_0 : Int) (s0_1 : Int) (s1_0 : Int) (s1_1 : Int) (s2_0 : Int) (s2_1 : Int) (s6 : Bool) (s11 : Int) (s13 : Int) (s15 : Int) (s17 : Int) (s19 : Int) (s24 : AV) (s25 : AV) (s26 : AV) (s27 : AV) (s28 : AV) (s29 : AV) (s30 : AV) (s31 : AV) (s32 : AV) (s33 : AV) (s34 : AV) (s35 : AV) (s37 : Int) (s38 : Int) (s39 : Int) (s41 : Int) (s42 : Int) (s43 : Int) (s44 : Int) (s45_0 : Int) (s45_1 : Int) (s47 : Int) (s48 : Int) (s49 : Int) (s51 : Int) (s52 : Int) (s53 : Int) (s54 : Int) (s55_0 : Int) (s55_1 : Int) (s57 : Int) (s58 : Int) (s59 : Int) (s61 : Int) (s62 : Int) (s63 : Int) (s64 : Int) (s65_0 : Int) (s65_1 : Int) (s66_0_0 : Int) (s66_0_1 : Int) (s66_1 : Int) (s67_0 : Int) (s67_1 : Int) (s68_0 : Int) (s68_1 : Int) (s69_0_0 : Int) (s69_0_1 : Int) (s69_1 : Int) (s70_0 : Int) (s70_1 : Int) (s71 : Int) (s72_0_0 : Int) (s72_0_1 : Int) (s72_1 : Int) (s73_0 : Int) (s73_1 : Int) (s74_0 : Int) (s74_1 : Int) (s75_0_0 : Int) (s75_0_1 : Int) (s75_1 : Int) (s76_0 : Int) (s76_1 : Int) (s77 : Int) (s78_0_0 : Int) (s78_0_1 : Int) (s78_1 : Int) (s79_0 : Int) (s79_1 : Int) (s80_0 : Int) (s80_1 : Int) (s81_0_0 : Int) (s81_0_1 : Int) (s81_1 : Int) (s82_0 : Int) (s82_1 : Int) (s83 : Int) (s84_0_0 : Int) (s84_0_1 : Int) (s84_1 : Int) (s85_0 : Int) (s85_1 : Int) (s86_0 : Int) (s86_1 : Int) (s87_0_0 : Int) (s87_0_1 : Int) (s87_1 : Int) (s88_0 : Int) (s88_1 : Int) (s89 : Int) (s90_0_0 : Int) (s90_0_1 : Int) (s90_1 : Int) (s91_0 : Int) (s91_1 : Int) (s92_0 : Int) (s92_1 : Int) (s93_0_0 : Int) (s93_0_1 : Int) (s93_1 : Int) (s94_0 : Int) (s94_1 : Int) (s95 : Int) (s96 : Int) (s97 : Bool) (s98 : Bool) (s99 : Int) (s100 : Bool) (s101 : Bool) (s102 : Bool) (s103 : Int) (s104 : Bool) (s105 : Bool) (s106 : Bool) (s107 : Int) (s108 : Bool) (s109 : Bool) (s110 : Bool) (s111 : Int) (s112 : Bool) (s113 : Bool) (s114 : Bool) (s115_0 : Int) (s115_1 : Int) (s116_0 : Int) (s116_1 : Int) (s117 : Bool) (s118 : Bool) (s119 : Bool) (s120_0 : Int) (s120_1 : Int) (s121_0 : Int) (s121_1 : Int) (s122 : Bool) (s123 : Bool) (s124_0_0 : Int) (s124_0_1 : Int) (s124_1 : Int) (s125_0 : Int) (s125_1 : Int) (s126_0 : Int) (s126_1 : Int) (s127_0_0 : Int) (s127_0_1 : Int) (s127_1 : Int) (s128_0 : Int) (s128_1 : Int) (s129 : Int) (s130_0_0 : Int) (s130_0_1 : Int) (s130_1 : Int) (s131_0 : Int) (s131_1 : Int) (s132_0 : Int) (s132_1 : Int) (s133_0_0 : Int) (s133_0_1 : Int) (s133_1 : Int) (s134_0 : Int) (s134_1 : Int) (s135 : Int) (s136_0_0 : Int) (s136_0_1 : Int) (s136_1 : Int) (s137_0 : Int) (s137_1 : Int) (s138_0 : Int) (s138_1 : Int) (s139_0_0 : Int) (s139_0_1 : Int) (s139_1 : Int) (s140_0 : Int) (s140_1 : Int) (s141 : Int) (s142_0_0 : Int) (s142_0_1 : Int) (s142_1 : Int) (s143_0 : Int) (s143_1 : Int) (s144_0 : Int) (s144_1 : Int) (s145_0_0 : Int) (s145_0_1 : Int) (s145_1 : Int) (s146_0 : Int) (s146_1 : Int) (s147 : Int) (s148 : Int) (s149 : Bool) (s150 : Bool) (s151 : Int) (s152 : Bool) (s153 : Bool) (s154 : Bool) (s155 : Int) (s156 : Bool) (s157 : Bool) (s158 : Bool) (s159 : Int) (s160 : Bool) (s161 : Bool) (s162 : Bool) (s163_0 : Int) (s163_1 : Int) (s164_0 : Int) (s164_1 : Int) (s165 : Bool) (s166 : Bool) (s167 : AV) (s168 : AV) (s169 : AV) (s170 : AV) (s171 : AV) (s172 : AV) (s173 : AV) (s174 : AV) (s175 : AV) (s176 : AV) (s177 : AV) (s178 : AV) (s179 : AV) (s180 : AV) (s181 : AV) (s182 : AV) (s183 : AV) (s184 : AV) (s185 : AV) (s186 : AV) (s187 : AV) (s188 : AV) (s189 : AV) (s190 : AV) (s191 : AV) (s192 : AV) (s193 : AV) (s194 : AV) (s195 : AV) (s196 : AV) (s197 : AV) (s198 : AV) (s199 : AV) (s200 : AV) (s201 : AV) (s202 : AV) (s203 : AV) (s204 : AV) (s205 : AV) (s206 : AV) (s207 : AV) (s208 : AV) (s209 : AV) (s210 : AV) (s211 : AV) (s212 : AV) (s213 : AV) (s214 : AV) (s215 : AV) (s216 : AV) (s217 : AV) (s218 : AV) (s219 : AV) (s220 : AV) (s221 : AV) (s222 : AV) (s223 : AV) (s224 : AV) (s225 : AV) (s226 : AV) (s227 : AV) (s228 : AV) (s229 : AV) (s230 : AV) (s231 : AV) (h0_0_0 : Int) (h0_0_1 : Int) (h1_0_0 : Int) (h1_0_1 : Int) (h2_0_0 : Int) (h2_0_1 : Int) (h3_0_0 : Int) (h3_0_1 : Int) (h4_0_0 : Int) (h4_0_1 : Int) (h5_0_0 : Int) (h5_0_1 : Int) (h6_0_0 : Int) (h6_0_1 : Int) (h7_0_0 : Int) (h7_0_1 : Int) (h8_0_0 : Int) (h8_0_1 : Int) (h9_0_0 : Int) (h9_0_1 : Int) (h10_0_0 : Int) (h10_0_1 : Int) (h11_0_0 : Int) (h11_0_1 : Int) (h12_0_0 : Int) (h12_0_1 : Int) (h13_0_0 : Int) (h13_0_1 : Int) (h14_0_0 : Int) (h14_0_1 : Int) : evC (fnsOf (Tab.env tab) n) n 0 (dropSeq 13 (FInfo.body ir6))
    { ts := [AV.t (Tree.agg [Tree.int IntKind.i16 s0_0, Tree.int IntKind.i16 s0_1]), AV.t (Tree.agg [Tree.int IntKind.i16 s1_0, Tree.int IntKind.i16 s1_1]), AV.t (Tree.agg [Tree.int IntKind.i16 s2_0, Tree.int IntKind.i16 s2_1]), AV.href 0 0 0, AV.href 1 0 0, AV.href 2 0 0, AV.t (Tree.bool s6), AV.href 3 0 0, AV.href 4 0 0, AV.href 5 0 0, AV.href 6 0 0, AV.t (Tree.int IntKind.i64 s11), AV.href 7 0 0, AV.t (Tree.int IntKind.i64 s13), AV.href 8 0 0, AV.t (Tree.int IntKind.i64 s15), AV.href 9 0 0, AV.t (Tree.int IntKind.i64 s17), AV.href 10 0 0, AV.t (Tree.int IntKind.i64 s19), AV.href 11 0 0, AV.href 12 0 0, AV.href 13 0 0, AV.href 14 0 0, s24, s25, s26, s27, s28, s29, s30, s31, s32, s33, s34, s35, AV.href 0 0 0, AV.t (Tree.int IntKind.i16 s37), AV.t (Tree.int IntKind.i64 s38), AV.t (Tree.int IntKind.i64 s39), AV.href 0 0 1, AV.t (Tree.int IntKind.i16 s41), AV.t (Tree.int IntKind.i64 s42), AV.t (Tree.int IntKind.i64 s43), AV.t (Tree.int IntKind.i64 s44), AV.t (Tree.agg [Tree.int IntKind.i64 s45_0, Tree.int IntKind.i64 s45_1]), AV.href 1 0 0, AV.t (Tree.int IntKind.i16 s47), AV.t (Tree.int IntKind.i64 s48), AV.t (Tree.int IntKind.i64 s49), AV.href 1 0 1, AV.t (Tree.int IntKind.i16 s51), AV.t (Tree.int IntKind.i64 s52), AV.t (Tree.int IntKind.i64 s53), AV.t (Tree.int IntKind.i64 s54), AV.t (Tree.agg [Tree.int IntKind.i64 s55_0, Tree.int IntKind.i64 s55_1]), AV.href 2 0 0, AV.t (Tree.int IntKind.i16 s57), AV.t (Tree.int IntKind.i64 s58), AV.t (Tree.int IntKind.i64 s59), AV.href 2 0 1, AV.t (Tree.int IntKind.i16 s61), AV.t (Tree.int IntKind.i64 s62), AV.t (Tree.int IntKind.i64 s63), AV.t (Tree.int IntKind.i64 s64), AV.t (Tree.agg [Tree.int IntKind.i64 s65_0, Tree.int IntKind.i64 s65_1]), AV.t (Tree.tup [Tree.agg [Tree.int IntKind.i64 s66_0_0, Tree.int IntKind.i64 s66_0_1], Tree.int IntKind.i64 s66_1]), AV.t (Tree.agg [Tree.int IntKind.i64 s67_0, Tree.int IntKind.i64 s67_1]), AV.t (Tree.agg [Tree.int IntKind.i64 s68_0, Tree.int IntKind.i64 s68_1]), AV.t (Tree.tup [Tree.agg [Tree.int IntKind.i64 s69_0_0, Tree.int IntKind.i64 s69_0_1], Tree.int IntKind.i64 s69_1]), AV.t (Tree.agg [Tree.int IntKind.i64 s70_0, Tree.int IntKind.i64 s70_1]), AV.t (Tree.int IntKind.i64 s71), AV.t (Tree.tup [Tree.agg [Tree.int IntKind.i64 s72_0_0, Tree.int IntKind.i64 s72_0_1], Tree.int IntKind.i64 s72_1]), AV.t (Tree.agg [Tree.int IntKind.i64 s73_0, Tree.int IntKind.i64 s73_1]), AV.t (Tree.agg [Tree.int IntKind.i64 s74_0, Tree.int IntKind.i64 s74_1]), AV.t (Tree.tup [Tree.agg [Tree.int IntKind.i64 s75_0_0, Tree.int IntKind.i64 s75_0_1], Tree.int IntKind.i64 s75_1]), AV.t (Tree.agg [Tree.int IntKind.i64 s76_0, Tree.int IntKind.i64 s76_1]), AV.t (Tree.int IntKind.i64 s77), AV.t (Tree.tup [Tree.agg [Tree.int IntKind.i64 s78_0_0, Tree.int IntKind.i64 s78_0_1], Tree.int IntKind.i64 s78_1]), AV.t (Tree.agg [Tree.int IntKind.i64 s79_0, Tree.int IntKind.i64 s79_1]), AV.t (Tree.agg [Tree.int IntKind.i64 s80_0, Tree.int IntKind.i64 s80_1]), AV.t (Tree.tup [Tree.agg [Tree.int IntKind.i64 s81_0_0, Tree.int IntKind.i64 s81_0_1], Tree.int IntKind.i64 s81_1]), AV.t (Tree.agg [Tree.int IntKind.i64 s82_0, Tree.int IntKind.i64 s82_1]), AV.t (Tree.int IntKind.i64 s83), AV.t (Tree.tup [Tree.agg [Tree.int IntKind.i64 s84_0_0, Tree.int IntKind.i64 s84_0_1], Tree.int IntKind.i64 s84_1]), AV.t (Tree.agg [Tree.int IntKind.i64 s85_0, Tree.int IntKind.i64 s85_1]), AV.t (Tree.agg [Tree.int IntKind.i64 s86_0, Tree.int IntKind.i64 s86_1]), AV.t (Tree.tup [Tree.agg [Tree.int IntKind.i64 s87_0_0, Tree.int IntKind.i64 s87_0_1], Tree.int IntKind.i64 s87_1]), AV.t (Tree.agg [Tree.int IntKind.i64 s88_0, Tree.int IntKind.i64 s88_1]), AV.t (Tree.int IntKind.i64 s89), AV.t (Tree.tup [Tree.agg [Tree.int IntKind.i64 s90_0_0, Tree.int IntKind.i64 s90_0_1], Tree.int IntKind.i64 s90_1]), AV.t (Tree.agg [Tree.int IntKind.i64 s91_0, Tree.int IntKind.i64 s91_1]), AV.t (Tree.agg [Tree.int IntKind.i64 s92_0, Tree.int IntKind.i64 s92_1]), AV.t (Tree.tup [Tree.agg [Tree.int IntKind.i64 s93_0_0, Tree.int IntKind.i64 s93_0_1], Tree.int IntKind.i64 s93_1]), AV.t (Tree.agg [Tree.int IntKind.i64 s94_0, Tree.int IntKind.i64 s94_1]), AV.t (Tree.int IntKind.i64 s95), AV.t (Tree.int IntKind.i64 s96), AV.t (Tree.bool s97), AV.t (Tree.bool s98), AV.t (Tree.int IntKind.i64 s99), AV.t (Tree.bool s100), AV.t (Tree.bool s101), AV.t (Tree.bool s102), AV.t (Tree.int IntKind.i64 s103), AV.t (Tree.bool s104), AV.t (Tree.bool s105), AV.t (Tree.bool s106), AV.t (Tree.int IntKind.i64 s107), AV.t (Tree.bool s108), AV.t (Tree.bool s109), AV.t (Tree.bool s110), AV.t (Tree.int IntKind.i64 s111), AV.t (Tree.bool s112), AV.t (Tree.bool s113), AV.t (Tree.bool s114), AV.t (Tree.agg [Tree.int IntKind.i64 s115_0, Tree.int IntKind.i64 s115_1]), AV.t (Tree.agg [Tree.int IntKind.i64 s116_0, Tree.int IntKind.i64 s116_1]), AV.t (Tree.bool s117), AV.t (Tree.bool s118), AV.t (Tree.bool s119), AV.t (Tree.agg [Tree.int IntKind.i64 s120_0, Tree.int IntKind.i64 s120_1]), AV.t (Tree.agg [Tree.int IntKind.i64 s121_0, Tree.int IntKind.i64 s121_1]), AV.t (Tree.bool s122), AV.t (Tree.bool s123), AV.t (Tree.tup [Tree.agg [Tree.int IntKind.i64 s124_0_0, Tree.int IntKind.i64 s124_0_1], Tree.int IntKind.i64 s124_1]), AV.t (Tree.agg [Tree.int IntKind.i64 s125_0, Tree.int IntKind.i64 s125_1]), AV.t (Tree.agg [Tree.int IntKind.i64 s126_0, Tree.int IntKind.i64 s126_1]), AV.t (Tree.tup [Tree.agg [Tree.int IntKind.i64 s127_0_0, Tree.int IntKind.i64 s127_0_1], Tree.int IntKind.i64 s127_1]), AV.t (Tree.agg [Tree.int IntKind.i64 s128_0, Tree.int IntKind.i64 s128_1]), AV.t (Tree.int IntKind.i64 s129), AV.t (Tree.tup [Tree.agg [Tree.int IntKind.i64 s130_0_0, Tree.int IntKind.i64 s130_0_1], Tree.int IntKind.i64 s130_1]), AV.t (Tree.agg [Tree.int IntKind.i64 s131_0, Tree.int IntKind.i64 s131_1]), AV.t (Tree.agg [Tree.int IntKind.i64 s132_0, Tree.int IntKind.i64 s132_1]), AV.t (Tree.tup [Tree.agg [Tree.int IntKind.i64 s133_0_0, Tree.int IntKind.i64 s133_0_1], Tree.int IntKind.i64 s133_1]), AV.t (Tree.agg [Tree.int IntKind.i64 s134_0, Tree.int IntKind.i64 s134_1]), AV.t (Tree.int IntKind.i64 s135), AV.t (Tree.tup [Tree.agg [Tree.int IntKind.i64 s136_0_0, Tree.int IntKind.i64 s136_0_1], Tree.int IntKind.i64 s136_1]), AV.t (Tree.agg [Tree.int IntKind.i64 s137_0, Tree.int IntKind.i64 s137_1]), AV.t (Tree.agg [Tree.int IntKind.i64 s138_0, Tree.int IntKind.i64 s138_1]), AV.t (Tree.tup [Tree.agg [Tree.int IntKind.i64 s139_0_0, Tree.int IntKind.i64 s139_0_1], Tree.int IntKind.i64 s139_1]), AV.t (Tree.agg [Tree.int IntKind.i64 s140_0, Tree.int IntKind.i64 s140_1]), AV.t (Tree.int IntKind.i64 s141), AV.t (Tree.tup [Tree.agg [Tree.int IntKind.i64 s142_0_0, Tree.int IntKind.i64 s142_0_1], Tree.int IntKind.i64 s142_1]), AV.t (Tree.agg [Tree.int IntKind.i64 s143_0, Tree.int IntKind.i64 s143_1]), AV.t (Tree.agg [Tree.int IntKind.i64 s144_0, Tree.int IntKind.i64 s144_1]), AV.t (Tree.tup [Tree.agg [Tree.int IntKind.i64 s145_0_0, Tree.int IntKind.i64 s145_0_1], Tree.int IntKind.i64 s145_1]), AV.t (Tree.agg [Tree.int IntKind.i64 s146_0, Tree.int IntKind.i64 s146_1]), AV.t (Tree.int IntKind.i64 s147), AV.t (Tree.int IntKind.i64 s148), AV.t (Tree.bool s149), AV.t (Tree.bool s150), AV.t (Tree.int IntKind.i64 s151), AV.t (Tree.bool s152), AV.t (Tree.bool s153), AV.t (Tree.bool s154), AV.t (Tree.int IntKind.i64 s155), AV.t (Tree.bool s156), AV.t (Tree.bool s157), AV.t (Tree.bool s158), AV.t (Tree.int IntKind.i64 s159), AV.t (Tree.bool s160), AV.t (Tree.bool s161), AV.t (Tree.bool s162), AV.t (Tree.agg [Tree.int IntKind.i64 s163_0, Tree.int IntKind.i64 s163_1]), AV.t (Tree.agg [Tree.int IntKind.i64 s164_0, Tree.int IntKind.i64 s164_1]), AV.t (Tree.bool s165), AV.t (Tree.bool s166), s167, s168, s169, s170, s171, s172, s173, s174, s175, s176, s177, s178, s179, s180, s181, s182, s183, s184, s185, s186, s187, s188, s189, s190, s191, s192, s193, s194, s195, s196, s197, s198, s199, s200, s201, s202, s203, s204, s205, s206, s207, s208, s209, s210, s211, s212, s213, s214, s215, s216, s217, s218, s219, s220, s221, s222, s223, s224, s225, s226, s227, s228, s229, s230, s231],
      H := [HObj.tre (Sh.agg [Sh.int IntKind.i16, Sh.int IntKind.i16]) [Tree.agg [Tree.int IntKind.i16 h0_0_0, Tree.int IntKind.i16 h0_0_1]], HObj.tre (Sh.agg [Sh.int IntKind.i16, Sh.int IntKind.i16]) [Tree.agg [Tree.int IntKind.i16 h1_0_0, Tree.int IntKind.i16 h1_0_1]], HObj.tre (Sh.agg [Sh.int IntKind.i16, Sh.int IntKind.i16]) [Tree.agg [Tree.int IntKind.i16 h2_0_0, Tree.int IntKind.i16 h2_0_1]], HObj.tre (Sh.agg [Sh.int IntKind.i64, Sh.int IntKind.i64]) [Tree.agg [Tree.int IntKind.i64 h3_0_0, Tree.int IntKind.i64 h3_0_1]], HObj.tre (Sh.agg [Sh.int IntKind.i64, Sh.int IntKind.i64]) [Tree.agg [Tree.int IntKind.i64 h4_0_0, Tree.int IntKind.i64 h4_0_1]], HObj.tre (Sh.agg [Sh.int IntKind.i64, Sh.int IntKind.i64]) [Tree.agg [Tree.int IntKind.i64 h5_0_0, Tree.int IntKind.i64 h5_0_1]], HObj.tre (Sh.agg [Sh.int IntKind.i64, Sh.int IntKind.i64]) [Tree.agg [Tree.int IntKind.i64 h6_0_0, Tree.int IntKind.i64 h6_0_1]], HObj.tre (Sh.agg [Sh.int IntKind.i64, Sh.int IntKind.i64]) [Tree.agg [Tree.int IntKind.i64 h7_0_0, Tree.int IntKind.i64 h7_0_1]], HObj.tre (Sh.agg [Sh.int IntKind.i64, Sh.int IntKind.i64]) [Tree.agg [Tree.int IntKind.i64 h8_0_0, Tree.int IntKind.i64 h8_0_1]], HObj.tre (Sh.agg [Sh.int IntKind.i64, Sh.int IntKind.i64]) [Tree.agg [Tree.int IntKind.i64 h9_0_0, Tree.int IntKind.i64 h9_0_1]], HObj.tre (Sh.agg [Sh.int IntKind.i64, Sh.int IntKind.i64]) [Tree.agg [Tree.int IntKind.i64 h10_0_0, Tree.int IntKind.i64 h10_0_1]], HObj.tre (Sh.agg [Sh.int IntKind.i64, Sh.int IntKind.i64]) [Tree.agg [Tree.int IntKind.i64 h11_0_0, Tree.int IntKind.i64 h11_0_1]], HObj.tre (Sh.agg [Sh.int IntKind.i64, Sh.int IntKind.i64]) [Tree.agg [Tree.int IntKind.i64 h12_0_0, Tree.int IntKind.i64 h12_0_1]], HObj.tre (Sh.agg [Sh.int IntKind.i64, Sh.int IntKind.i64]) [Tree.agg [Tree.int IntKind.i64 h13_0_0, Tree.int IntKind.i64 h13_0_1]], HObj.tre (Sh.agg [Sh.int IntKind.i64, Sh.int IntKind.i64]) [Tree.agg [Tree.int IntKind.i64 h14_0_0, Tree.int IntKind.i64 h14_0_1]]] }
    (resK ir6) =
    Option.bind (evP (Tab.env tab) n 29 [Tree.agg [Tree.int IntKind.i64 h3_0_0, Tree.int IntKind.i64 h3_0_1]]) fun y =>
    bif Sh.ok (Sh.tup [Sh.agg [Sh.int IntKind.i64, Sh.int IntKind.i64], Sh.int IntKind.i64]) y then
      bif !(Tree.toInt (List.headD (List.tail (Tree.tupl y)) (Tree.bool false)) == 230) == (h3_0_0 == 0) then some (Tree.bool false)
      else
        bif Tree.toInt (List.headD (List.tail (Tree.tupl y)) (Tree.bool false)) == 0 then
          Option.bind
            (evP (Tab.env tab) n 27
              [Tree.agg [Tree.int IntKind.i64 h3_0_0, Tree.int IntKind.i64 h3_0_1],
                Tree.agg
                  [Tree.int IntKind.i64 (Tree.toInt (List.headD (Tree.cs (List.headD (Tree.tupl y) (Tree.bool false))) (Tree.bool false))),
                    Tree.int IntKind.i64 (Tree.toInt (List.headD (List.tail (Tree.cs (List.headD (Tree.tupl y) (Tree.bool false)))) (Tree.bool false)))]])
            fun y =>
            bif Sh.ok (Sh.tup [Sh.agg [Sh.int IntKind.i64, Sh.int IntKind.i64], Sh.int IntKind.i64]) y then
              bif Tree.toInt (List.headD (List.tail (Tree.tupl y)) (Tree.bool false)) != 0 then some (Tree.bool false)
              else
                bif
                    !(Tree.toInt (List.headD (Tree.cs (List.headD (Tree.tupl y) (Tree.bool false))) (Tree.bool false)) == 1 &&
                        (Tree.toInt (List.headD (List.tail (Tree.cs (List.headD (Tree.tupl y) (Tree.bool false)))) (Tree.bool false)) == 1 && true)) then
                  some (Tree.bool false)
                else
                  Option.bind
                    (evP (Tab.env tab) n 31
                      [Tree.agg [Tree.int IntKind.i64 h3_0_0, Tree.int IntKind.i64 h3_0_1], Tree.agg [Tree.int IntKind.i64 h4_0_0, Tree.int IntKind.i64 h4_0_1]])
                    fun y =>
                    bif Sh.ok (Sh.tup [Sh.bool, Sh.int IntKind.i64]) y then
                      Option.bind
                        (evP (Tab.env tab) n 31
                          [Tree.agg [Tree.int IntKind.i64 h4_0_0, Tree.int IntKind.i64 h4_0_1],
                            Tree.agg [Tree.int IntKind.i64 h3_0_0, Tree.int IntKind.i64 h3_0_1]])
                        fun y_1 =>
                        bif Sh.ok (Sh.tup [Sh.bool, Sh.int IntKind.i64]) y_1 then
                          Option.bind (evP (Tab.env tab) n 23 [Tree.agg [Tree.int IntKind.i64 h3_0_0, Tree.int IntKind.i64 h3_0_1]]) fun y_2 =>
                            bif Sh.ok (Sh.tup [Sh.agg [Sh.int IntKind.i64, Sh.int IntKind.i64], Sh.int IntKind.i64]) y_2 then
                              Option.bind (evP (Tab.env tab) n 23 [Tree.agg [Tree.int IntKind.i64 h4_0_0, Tree.int IntKind.i64 h4_0_1]]) fun y_3 =>
                                bif Sh.ok (Sh.tup [Sh.agg [Sh.int IntKind.i64, Sh.int IntKind.i64], Sh.int IntKind.i64]) y_3 then
                                  bif Tree.toBool (List.headD (Tree.tupl y) (Tree.bool false)) then
                                    bif Tree.toBool (List.headD (Tree.tupl y) (Tree.bool false)) then
                                      bif
                                          Tree.toBool (List.headD (Tree.tupl y_1) (Tree.bool false)) ==
                                            (Tree.toInt (List.headD (Tree.cs (List.headD (Tree.tupl y_2) (Tree.bool false))) (Tree.bool false)) ==
                                                Tree.toInt (List.headD (Tree.cs (List.headD (Tree.tupl y_3) (Tree.bool false))) (Tree.bool false)) &&
                                              (Tree.toInt (List.headD (List.tail (Tree.cs (List.headD (Tree.tupl y_2) (Tree.bool false)))) (Tree.bool false)) ==
                                                  Tree.toInt
                                                    (List.headD (List.tail (Tree.cs (List.headD (Tree.tupl y_3) (Tree.bool false)))) (Tree.bool false)) &&
                                                true)) then
                                        Option.bind (evP (Tab.env tab) n 15 []) fun y => bif Sh.ok Sh.bool y then some (Tree.bool (Tree.toBool y)) else none
                                      else some (Tree.bool false)
                                    else
                                      bif
                                          false ==
                                            (Tree.toInt (List.headD (Tree.cs (List.headD (Tree.tupl y_2) (Tree.bool false))) (Tree.bool false)) ==
                                                Tree.toInt (List.headD (Tree.cs (List.headD (Tree.tupl y_3) (Tree.bool false))) (Tree.bool false)) &&
                                              (Tree.toInt (List.headD (List.tail (Tree.cs (List.headD (Tree.tupl y_2) (Tree.bool false)))) (Tree.bool false)) ==
                                                  Tree.toInt
                                                    (List.headD (List.tail (Tree.cs (List.headD (Tree.tupl y_3) (Tree.bool false)))) (Tree.bool false)) &&
                                                true)) then
                                        Option.bind (evP (Tab.env tab) n 15 []) fun y => bif Sh.ok Sh.bool y then some (Tree.bool (Tree.toBool y)) else none
                                      else some (Tree.bool false)
                                  else
                                    bif Tree.toBool (List.headD (Tree.tupl y_1) (Tree.bool false)) then
                                      bif Tree.toBool (List.headD (Tree.tupl y) (Tree.bool false)) then
                                        bif
                                            Tree.toBool (List.headD (Tree.tupl y_1) (Tree.bool false)) ==
                                              (Tree.toInt (List.headD (Tree.cs (List.headD (Tree.tupl y_2) (Tree.bool false))) (Tree.bool false)) ==
                                                  Tree.toInt (List.headD (Tree.cs (List.headD (Tree.tupl y_3) (Tree.bool false))) (Tree.bool false)) &&
                                                (Tree.toInt (List.headD (List.tail (Tree.cs (List.headD (Tree.tupl y_2) (Tree.bool false)))) (Tree.bool false)) ==
                                                    Tree.toInt
                                                      (List.headD (List.tail (Tree.cs (List.headD (Tree.tupl y_3) (Tree.bool false)))) (Tree.bool false)) &&
                                                  true)) then
                                          Option.bind (evP (Tab.env tab) n 15 []) fun y => bif Sh.ok Sh.bool y then some (Tree.bool (Tree.toBool y)) else none
                                        else some (Tree.bool false)
                                      else
                                        bif
                                            false ==
                                              (Tree.toInt (List.headD (Tree.cs (List.headD (Tree.tupl y_2) (Tree.bool false))) (Tree.bool false)) ==
                                                  Tree.toInt (List.headD (Tree.cs (List.headD (Tree.tupl y_3) (Tree.bool false))) (Tree.bool false)) &&
                                                (Tree.toInt (List.headD (List.tail (Tree.cs (List.headD (Tree.tupl y_2) (Tree.bool false)))) (Tree.bool false)) ==
                                                    Tree.toInt
                                                      (List.headD (List.tail (Tree.cs (List.headD (Tree.tupl y_3) (Tree.bool false)))) (Tree.bool false)) &&
                                                  true)) then
                                          Option.bind (evP (Tab.env tab) n 15 []) fun y => bif Sh.ok Sh.bool y then some (Tree.bool (Tree.toBool y)) else none
                                        else some (Tree.bool false)
                                    else some (Tree.bool false)
                                else none
                            else none
                        else none
                    else none
            else none
        else
          Option.bind
            (evP (Tab.env tab) n 31
              [Tree.agg [Tree.int IntKind.i64 h3_0_0, Tree.int IntKind.i64 h3_0_1], Tree.agg [Tree.int IntKind.i64 h4_0_0, Tree.int IntKind.i64 h4_0_1]])
            fun y =>
            bif Sh.ok (Sh.tup [Sh.bool, Sh.int IntKind.i64]) y then
              Option.bind
                (evP (Tab.env tab) n 31
                  [Tree.agg [Tree.int IntKind.i64 h4_0_0, Tree.int IntKind.i64 h4_0_1], Tree.agg [Tree.int IntKind.i64 h3_0_0, Tree.int IntKind.i64 h3_0_1]])
                fun y_1 =>
                bif Sh.ok (Sh.tup [Sh.bool, Sh.int IntKind.i64]) y_1 then
                  Option.bind (evP (Tab.env tab) n 23 [Tree.agg [Tree.int IntKind.i64 h3_0_0, Tree.int IntKind.i64 h3_0_1]]) fun y_2 =>
                    bif Sh.ok (Sh.tup [Sh.agg [Sh.int IntKind.i64, Sh.int IntKind.i64], Sh.int IntKind.i64]) y_2 then
                      Option.bind (evP (Tab.env tab) n 23 [Tree.agg [Tree.int IntKind.i64 h4_0_0, Tree.int IntKind.i64 h4_0_1]]) fun y_3 =>
                        bif Sh.ok (Sh.tup [Sh.agg [Sh.int IntKind.i64, Sh.int IntKind.i64], Sh.int IntKind.i64]) y_3 then
                          bif Tree.toBool (List.headD (Tree.tupl y) (Tree.bool false)) then
                            bif Tree.toBool (List.headD (Tree.tupl y) (Tree.bool false)) then
                              bif
                                  Tree.toBool (List.headD (Tree.tupl y_1) (Tree.bool false)) ==
                                    (Tree.toInt (List.headD (Tree.cs (List.headD (Tree.tupl y_2) (Tree.bool false))) (Tree.bool false)) ==
                                        Tree.toInt (List.headD (Tree.cs (List.headD (Tree.tupl y_3) (Tree.bool false))) (Tree.bool false)) &&
                                      (Tree.toInt (List.headD (List.tail (Tree.cs (List.headD (Tree.tupl y_2) (Tree.bool false)))) (Tree.bool false)) ==
                                          Tree.toInt (List.headD (List.tail (Tree.cs (List.headD (Tree.tupl y_3) (Tree.bool false)))) (Tree.bool false)) &&
                                        true)) then
                                Option.bind (evP (Tab.env tab) n 15 []) fun y => bif Sh.ok Sh.bool y then some (Tree.bool (Tree.toBool y)) else none
                              else some (Tree.bool false)
                            else
                              bif
                                  false ==
                                    (Tree.toInt (List.headD (Tree.cs (List.headD (Tree.tupl y_2) (Tree.bool false))) (Tree.bool false)) ==
                                        Tree.toInt (List.headD (Tree.cs (List.headD (Tree.tupl y_3) (Tree.bool false))) (Tree.bool false)) &&
                                      (Tree.toInt (List.headD (List.tail (Tree.cs (List.headD (Tree.tupl y_2) (Tree.bool false)))) (Tree.bool false)) ==
                                          Tree.toInt (List.headD (List.tail (Tree.cs (List.headD (Tree.tupl y_3) (Tree.bool false)))) (Tree.bool false)) &&
                                        true)) then
                                Option.bind (evP (Tab.env tab) n 15 []) fun y => bif Sh.ok Sh.bool y then some (Tree.bool (Tree.toBool y)) else none
                              else some (Tree.bool false)
                          else
                            bif Tree.toBool (List.headD (Tree.tupl y_1) (Tree.bool false)) then
                              bif Tree.toBool (List.headD (Tree.tupl y) (Tree.bool false)) then
                                bif
                                    Tree.toBool (List.headD (Tree.tupl y_1) (Tree.bool false)) ==
                                      (Tree.toInt (List.headD (Tree.cs (List.headD (Tree.tupl y_2) (Tree.bool false))) (Tree.bool false)) ==
                                          Tree.toInt (List.headD (Tree.cs (List.headD (Tree.tupl y_3) (Tree.bool false))) (Tree.bool false)) &&
                                        (Tree.toInt (List.headD (List.tail (Tree.cs (List.headD (Tree.tupl y_2) (Tree.bool false)))) (Tree.bool false)) ==
                                            Tree.toInt (List.headD (List.tail (Tree.cs (List.headD (Tree.tupl y_3) (Tree.bool false)))) (Tree.bool false)) &&
                                          true)) then
                                  Option.bind (evP (Tab.env tab) n 15 []) fun y => bif Sh.ok Sh.bool y then some (Tree.bool (Tree.toBool y)) else none
                                else some (Tree.bool false)
                              else
                                bif
                                    false ==
                                      (Tree.toInt (List.headD (Tree.cs (List.headD (Tree.tupl y_2) (Tree.bool false))) (Tree.bool false)) ==
                                          Tree.toInt (List.headD (Tree.cs (List.headD (Tree.tupl y_3) (Tree.bool false))) (Tree.bool false)) &&
                                        (Tree.toInt (List.headD (List.tail (Tree.cs (List.headD (Tree.tupl y_2) (Tree.bool false)))) (Tree.bool false)) ==
                                            Tree.toInt (List.headD (List.tail (Tree.cs (List.headD (Tree.tupl y_3) (Tree.bool false)))) (Tree.bool false)) &&
                                          true)) then
                                  Option.bind (evP (Tab.env tab) n 15 []) fun y => bif Sh.ok Sh.bool y then some (Tree.bool (Tree.toBool y)) else none
                                else some (Tree.bool false)
                            else some (Tree.bool false)
                        else none
                    else none
                else none
            else none
    else none := by kernel_rfl

end Go.Proofs.Aw.Qa
