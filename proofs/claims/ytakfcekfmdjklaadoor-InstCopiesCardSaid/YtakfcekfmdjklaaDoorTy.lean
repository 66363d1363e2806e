/-
  What the laws of text Eng2 ask of the types: each fact off the program.
-/
import Derived.Test.YtakfcekfmdjklaaDoorRows
import Derived.Test.YtakfcekfmdjklaaDoorEng2
namespace Go.Proofs.YtakfcekfmdjklaaDoor
theorem mixed : Tryd.prog.follows .mixedOrders = true := by kernel_rfl
theorem info0 : Tryd.prog.info? 0 = some Tryd.t0 := by kernel_rfl
theorem info1 : Tryd.prog.info? 1 = some Tryd.t1 := by kernel_rfl
theorem sz2 : szOf Tryd.prog 2 = some (false, 1) := by kernel_rfl
theorem info2 : Tryd.prog.info? 2 = some Tryd.t2 := by kernel_rfl
theorem sz3 : szOf Tryd.prog 3 = some (false, 1) := by kernel_rfl
theorem info3 : Tryd.prog.info? 3 = some Tryd.t3 := by kernel_rfl
theorem sz4 : szOf Tryd.prog 4 = some (false, 1) := by kernel_rfl
theorem info4 : Tryd.prog.info? 4 = some Tryd.t4 := by kernel_rfl
theorem sz5 : szOf Tryd.prog 5 = some (false, 1) := by kernel_rfl
theorem info5 : Tryd.prog.info? 5 = some Tryd.t5 := by kernel_rfl
theorem sz6 : szOf Tryd.prog 6 = some (false, 1) := by kernel_rfl
theorem info6 : Tryd.prog.info? 6 = some Tryd.t6 := by kernel_rfl
theorem sz7 : szOf Tryd.prog 7 = some (true, 4) := by kernel_rfl
theorem info7 : Tryd.prog.info? 7 = some Tryd.t7 := by kernel_rfl
theorem fi7_0 : fieldInfo Tryd.prog 7 0 = some (0, false, 1) := by kernel_rfl
theorem fi7_1 : fieldInfo Tryd.prog 7 1 = some (1, false, 1) := by kernel_rfl
theorem fi7_2 : fieldInfo Tryd.prog 7 2 = some (2, false, 1) := by kernel_rfl
theorem fi7_3 : fieldInfo Tryd.prog 7 3 = some (3, false, 1) := by kernel_rfl
theorem sz8 : szOf Tryd.prog 8 = some (true, 4) := by kernel_rfl
theorem info8 : Tryd.prog.info? 8 = some Tryd.t8 := by kernel_rfl
theorem fi8_0 : fieldInfo Tryd.prog 8 0 = some (0, false, 1) := by kernel_rfl
theorem fi8_1 : fieldInfo Tryd.prog 8 1 = some (1, false, 1) := by kernel_rfl
theorem fi8_2 : fieldInfo Tryd.prog 8 2 = some (2, false, 1) := by kernel_rfl
theorem fi8_3 : fieldInfo Tryd.prog 8 3 = some (3, false, 1) := by kernel_rfl
theorem sz9 : szOf Tryd.prog 9 = some (false, 1) := by kernel_rfl
theorem info9 : Tryd.prog.info? 9 = some Tryd.t9 := by kernel_rfl
theorem sz10 : szOf Tryd.prog 10 = some (false, 1) := by kernel_rfl
theorem info10 : Tryd.prog.info? 10 = some Tryd.t10 := by kernel_rfl
theorem sz11 : szOf Tryd.prog 11 = some (false, 1) := by kernel_rfl
theorem info11 : Tryd.prog.info? 11 = some Tryd.t11 := by kernel_rfl
theorem sz12 : szOf Tryd.prog 12 = some (false, 1) := by kernel_rfl
theorem info12 : Tryd.prog.info? 12 = some Tryd.t12 := by kernel_rfl
theorem sz13 : szOf Tryd.prog 13 = some (true, 2) := by kernel_rfl
theorem info13 : Tryd.prog.info? 13 = some Tryd.t13 := by kernel_rfl
theorem fi13_0 : fieldInfo Tryd.prog 13 0 = some (0, false, 1) := by kernel_rfl
theorem fi13_1 : fieldInfo Tryd.prog 13 1 = some (1, false, 1) := by kernel_rfl
theorem sz14 : szOf Tryd.prog 14 = some (true, 2) := by kernel_rfl
theorem info14 : Tryd.prog.info? 14 = some Tryd.t14 := by kernel_rfl
theorem fi14_0 : fieldInfo Tryd.prog 14 0 = some (0, false, 1) := by kernel_rfl
theorem fi14_1 : fieldInfo Tryd.prog 14 1 = some (1, false, 1) := by kernel_rfl
theorem sz15 : szOf Tryd.prog 15 = some (false, 1) := by kernel_rfl
theorem info15 : Tryd.prog.info? 15 = some Tryd.t15 := by kernel_rfl
theorem sz16 : szOf Tryd.prog 16 = some (false, 1) := by kernel_rfl
theorem info16 : Tryd.prog.info? 16 = some Tryd.t16 := by kernel_rfl
theorem sz17 : szOf Tryd.prog 17 = some (false, 1) := by kernel_rfl
theorem info17 : Tryd.prog.info? 17 = some Tryd.t17 := by kernel_rfl
theorem sz18 : szOf Tryd.prog 18 = some (true, 1) := by kernel_rfl
theorem info18 : Tryd.prog.info? 18 = some Tryd.t18 := by kernel_rfl
theorem fi18_0 : fieldInfo Tryd.prog 18 0 = some (0, false, 1) := by kernel_rfl
theorem sz19 : szOf Tryd.prog 19 = some (true, 1) := by kernel_rfl
theorem info19 : Tryd.prog.info? 19 = some Tryd.t19 := by kernel_rfl
theorem fi19_0 : fieldInfo Tryd.prog 19 0 = some (0, false, 1) := by kernel_rfl
theorem info20 : Tryd.prog.info? 20 = some Tryd.t20 := by kernel_rfl
theorem sz21 : szOf Tryd.prog 21 = some (false, 1) := by kernel_rfl
theorem info21 : Tryd.prog.info? 21 = some Tryd.t21 := by kernel_rfl
theorem sz22 : szOf Tryd.prog 22 = some (false, 1) := by kernel_rfl
theorem info22 : Tryd.prog.info? 22 = some Tryd.t22 := by kernel_rfl
theorem sl22 : slInfo Tryd.prog 22 = some (false, 1) := by kernel_rfl
theorem sz23 : szOf Tryd.prog 23 = some (false, 1) := by kernel_rfl
theorem info23 : Tryd.prog.info? 23 = some Tryd.t23 := by kernel_rfl
theorem sl23 : slInfo Tryd.prog 23 = some (false, 1) := by kernel_rfl
theorem sz24 : szOf Tryd.prog 24 = some (true, 6) := by kernel_rfl
theorem info24 : Tryd.prog.info? 24 = some Tryd.t24 := by kernel_rfl
theorem fi24_0 : fieldInfo Tryd.prog 24 0 = some (0, false, 1) := by kernel_rfl
theorem fi24_1 : fieldInfo Tryd.prog 24 1 = some (1, false, 1) := by kernel_rfl
theorem fi24_2 : fieldInfo Tryd.prog 24 2 = some (2, false, 1) := by kernel_rfl
theorem fi24_3 : fieldInfo Tryd.prog 24 3 = some (3, false, 1) := by kernel_rfl
theorem fi24_4 : fieldInfo Tryd.prog 24 4 = some (4, false, 1) := by kernel_rfl
theorem fi24_5 : fieldInfo Tryd.prog 24 5 = some (5, false, 1) := by kernel_rfl
theorem sz25 : szOf Tryd.prog 25 = some (true, 6) := by kernel_rfl
theorem info25 : Tryd.prog.info? 25 = some Tryd.t25 := by kernel_rfl
theorem fi25_0 : fieldInfo Tryd.prog 25 0 = some (0, false, 1) := by kernel_rfl
theorem fi25_1 : fieldInfo Tryd.prog 25 1 = some (1, false, 1) := by kernel_rfl
theorem fi25_2 : fieldInfo Tryd.prog 25 2 = some (2, false, 1) := by kernel_rfl
theorem fi25_3 : fieldInfo Tryd.prog 25 3 = some (3, false, 1) := by kernel_rfl
theorem fi25_4 : fieldInfo Tryd.prog 25 4 = some (4, false, 1) := by kernel_rfl
theorem fi25_5 : fieldInfo Tryd.prog 25 5 = some (5, false, 1) := by kernel_rfl
theorem info26 : Tryd.prog.info? 26 = some Tryd.t26 := by kernel_rfl
theorem info27 : Tryd.prog.info? 27 = some Tryd.t27 := by kernel_rfl
theorem sz28 : szOf Tryd.prog 28 = some (false, 1) := by kernel_rfl
theorem info28 : Tryd.prog.info? 28 = some Tryd.t28 := by kernel_rfl
theorem info29 : Tryd.prog.info? 29 = some Tryd.t29 := by kernel_rfl
theorem info30 : Tryd.prog.info? 30 = some Tryd.t30 := by kernel_rfl
theorem info31 : Tryd.prog.info? 31 = some Tryd.t31 := by kernel_rfl
theorem info32 : Tryd.prog.info? 32 = some Tryd.t32 := by kernel_rfl
theorem info33 : Tryd.prog.info? 33 = some Tryd.t33 := by kernel_rfl
theorem sz34 : szOf Tryd.prog 34 = some (false, 1) := by kernel_rfl
theorem info34 : Tryd.prog.info? 34 = some Tryd.t34 := by kernel_rfl
theorem sl34 : slInfo Tryd.prog 34 = some (false, 1) := by kernel_rfl
theorem info35 : Tryd.prog.info? 35 = some Tryd.t35 := by kernel_rfl
theorem info36 : Tryd.prog.info? 36 = some Tryd.t36 := by kernel_rfl
theorem info37 : Tryd.prog.info? 37 = some Tryd.t37 := by kernel_rfl
theorem sz38 : szOf Tryd.prog 38 = some (false, 1) := by kernel_rfl
theorem info38 : Tryd.prog.info? 38 = some Tryd.t38 := by kernel_rfl
theorem info39 : Tryd.prog.info? 39 = some Tryd.t39 := by kernel_rfl
theorem info40 : Tryd.prog.info? 40 = some Tryd.t40 := by kernel_rfl
theorem info41 : Tryd.prog.info? 41 = some Tryd.t41 := by kernel_rfl
theorem info42 : Tryd.prog.info? 42 = some Tryd.t42 := by kernel_rfl
theorem info43 : Tryd.prog.info? 43 = some Tryd.t43 := by kernel_rfl
theorem info44 : Tryd.prog.info? 44 = some Tryd.t44 := by kernel_rfl
theorem info45 : Tryd.prog.info? 45 = some Tryd.t45 := by kernel_rfl
theorem info46 : Tryd.prog.info? 46 = some Tryd.t46 := by kernel_rfl
theorem info47 : Tryd.prog.info? 47 = some Tryd.t47 := by kernel_rfl
theorem sz48 : szOf Tryd.prog 48 = some (false, 1) := by kernel_rfl
theorem info48 : Tryd.prog.info? 48 = some Tryd.t48 := by kernel_rfl
theorem sl48 : slInfo Tryd.prog 48 = some (true, 4) := by kernel_rfl
theorem info49 : Tryd.prog.info? 49 = some Tryd.t49 := by kernel_rfl
theorem info50 : Tryd.prog.info? 50 = some Tryd.t50 := by kernel_rfl
theorem info51 : Tryd.prog.info? 51 = some Tryd.t51 := by kernel_rfl
theorem info52 : Tryd.prog.info? 52 = some Tryd.t52 := by kernel_rfl
theorem info53 : Tryd.prog.info? 53 = some Tryd.t53 := by kernel_rfl
theorem sz54 : szOf Tryd.prog 54 = some (false, 1) := by kernel_rfl
theorem info54 : Tryd.prog.info? 54 = some Tryd.t54 := by kernel_rfl
theorem sl54 : slInfo Tryd.prog 54 = some (false, 1) := by kernel_rfl
theorem info55 : Tryd.prog.info? 55 = some Tryd.t55 := by kernel_rfl
theorem info56 : Tryd.prog.info? 56 = some Tryd.t56 := by kernel_rfl
theorem info57 : Tryd.prog.info? 57 = some Tryd.t57 := by kernel_rfl
theorem info58 : Tryd.prog.info? 58 = some Tryd.t58 := by kernel_rfl
theorem info59 : Tryd.prog.info? 59 = some Tryd.t59 := by kernel_rfl
theorem sz60 : szOf Tryd.prog 60 = some (false, 1) := by kernel_rfl
theorem info60 : Tryd.prog.info? 60 = some Tryd.t60 := by kernel_rfl
theorem sz61 : szOf Tryd.prog 61 = some (true, 2) := by kernel_rfl
theorem info61 : Tryd.prog.info? 61 = some Tryd.t61 := by kernel_rfl
theorem fi61_0 : fieldInfo Tryd.prog 61 0 = some (0, false, 1) := by kernel_rfl
theorem fi61_1 : fieldInfo Tryd.prog 61 1 = some (1, false, 1) := by kernel_rfl
theorem sz62 : szOf Tryd.prog 62 = some (true, 2) := by kernel_rfl
theorem info62 : Tryd.prog.info? 62 = some Tryd.t62 := by kernel_rfl
theorem fi62_0 : fieldInfo Tryd.prog 62 0 = some (0, false, 1) := by kernel_rfl
theorem fi62_1 : fieldInfo Tryd.prog 62 1 = some (1, false, 1) := by kernel_rfl
theorem info63 : Tryd.prog.info? 63 = some Tryd.t63 := by kernel_rfl
theorem sz64 : szOf Tryd.prog 64 = some (false, 1) := by kernel_rfl
theorem info64 : Tryd.prog.info? 64 = some Tryd.t64 := by kernel_rfl
theorem sz65 : szOf Tryd.prog 65 = some (false, 1) := by kernel_rfl
theorem info65 : Tryd.prog.info? 65 = some Tryd.t65 := by kernel_rfl
theorem sl65 : slInfo Tryd.prog 65 = some (true, 4) := by kernel_rfl
theorem info66 : Tryd.prog.info? 66 = some Tryd.t66 := by kernel_rfl
theorem info67 : Tryd.prog.info? 67 = some Tryd.t67 := by kernel_rfl
theorem sz68 : szOf Tryd.prog 68 = some (true, 4) := by kernel_rfl
theorem info68 : Tryd.prog.info? 68 = some Tryd.t68 := by kernel_rfl
theorem fi68_0 : fieldInfo Tryd.prog 68 0 = some (0, false, 1) := by kernel_rfl
theorem fi68_1 : fieldInfo Tryd.prog 68 1 = some (1, false, 1) := by kernel_rfl
theorem fi68_2 : fieldInfo Tryd.prog 68 2 = some (2, false, 1) := by kernel_rfl
theorem fi68_3 : fieldInfo Tryd.prog 68 3 = some (3, false, 1) := by kernel_rfl
theorem sz69 : szOf Tryd.prog 69 = some (true, 4) := by kernel_rfl
theorem info69 : Tryd.prog.info? 69 = some Tryd.t69 := by kernel_rfl
theorem fi69_0 : fieldInfo Tryd.prog 69 0 = some (0, false, 1) := by kernel_rfl
theorem fi69_1 : fieldInfo Tryd.prog 69 1 = some (1, false, 1) := by kernel_rfl
theorem fi69_2 : fieldInfo Tryd.prog 69 2 = some (2, false, 1) := by kernel_rfl
theorem fi69_3 : fieldInfo Tryd.prog 69 3 = some (3, false, 1) := by kernel_rfl
theorem info70 : Tryd.prog.info? 70 = some Tryd.t70 := by kernel_rfl
theorem info71 : Tryd.prog.info? 71 = some Tryd.t71 := by kernel_rfl
theorem info72 : Tryd.prog.info? 72 = some Tryd.t72 := by kernel_rfl
theorem sz73 : szOf Tryd.prog 73 = some (false, 1) := by kernel_rfl
theorem info73 : Tryd.prog.info? 73 = some Tryd.t73 := by kernel_rfl
theorem sz74 : szOf Tryd.prog 74 = some (true, 3) := by kernel_rfl
theorem info74 : Tryd.prog.info? 74 = some Tryd.t74 := by kernel_rfl
theorem fi74_0 : fieldInfo Tryd.prog 74 0 = some (0, false, 1) := by kernel_rfl
theorem fi74_1 : fieldInfo Tryd.prog 74 1 = some (1, false, 1) := by kernel_rfl
theorem fi74_2 : fieldInfo Tryd.prog 74 2 = some (2, false, 1) := by kernel_rfl
theorem sz75 : szOf Tryd.prog 75 = some (true, 3) := by kernel_rfl
theorem info75 : Tryd.prog.info? 75 = some Tryd.t75 := by kernel_rfl
theorem fi75_0 : fieldInfo Tryd.prog 75 0 = some (0, false, 1) := by kernel_rfl
theorem fi75_1 : fieldInfo Tryd.prog 75 1 = some (1, false, 1) := by kernel_rfl
theorem fi75_2 : fieldInfo Tryd.prog 75 2 = some (2, false, 1) := by kernel_rfl
theorem info76 : Tryd.prog.info? 76 = some Tryd.t76 := by kernel_rfl
theorem sz77 : szOf Tryd.prog 77 = some (true, 4) := by kernel_rfl
theorem info77 : Tryd.prog.info? 77 = some Tryd.t77 := by kernel_rfl
theorem fi77_0 : fieldInfo Tryd.prog 77 0 = some (0, false, 1) := by kernel_rfl
theorem fi77_1 : fieldInfo Tryd.prog 77 1 = some (1, false, 1) := by kernel_rfl
theorem fi77_2 : fieldInfo Tryd.prog 77 2 = some (2, false, 1) := by kernel_rfl
theorem fi77_3 : fieldInfo Tryd.prog 77 3 = some (3, false, 1) := by kernel_rfl
theorem sz78 : szOf Tryd.prog 78 = some (false, 1) := by kernel_rfl
theorem info78 : Tryd.prog.info? 78 = some Tryd.t78 := by kernel_rfl
theorem sz79 : szOf Tryd.prog 79 = some (true, 2) := by kernel_rfl
theorem info79 : Tryd.prog.info? 79 = some Tryd.t79 := by kernel_rfl
theorem fi79_0 : fieldInfo Tryd.prog 79 0 = some (0, false, 1) := by kernel_rfl
theorem fi79_1 : fieldInfo Tryd.prog 79 1 = some (1, false, 1) := by kernel_rfl
theorem sz80 : szOf Tryd.prog 80 = some (true, 2) := by kernel_rfl
theorem info80 : Tryd.prog.info? 80 = some Tryd.t80 := by kernel_rfl
theorem fi80_0 : fieldInfo Tryd.prog 80 0 = some (0, false, 1) := by kernel_rfl
theorem fi80_1 : fieldInfo Tryd.prog 80 1 = some (1, false, 1) := by kernel_rfl
theorem info81 : Tryd.prog.info? 81 = some Tryd.t81 := by kernel_rfl
theorem info82 : Tryd.prog.info? 82 = some Tryd.t82 := by kernel_rfl
theorem info83 : Tryd.prog.info? 83 = some Tryd.t83 := by kernel_rfl
theorem info84 : Tryd.prog.info? 84 = some Tryd.t84 := by kernel_rfl
theorem info85 : Tryd.prog.info? 85 = some Tryd.t85 := by kernel_rfl
theorem info86 : Tryd.prog.info? 86 = some Tryd.t86 := by kernel_rfl
theorem info87 : Tryd.prog.info? 87 = some Tryd.t87 := by kernel_rfl
theorem info88 : Tryd.prog.info? 88 = some Tryd.t88 := by kernel_rfl
theorem info89 : Tryd.prog.info? 89 = some Tryd.t89 := by kernel_rfl
theorem info90 : Tryd.prog.info? 90 = some Tryd.t90 := by kernel_rfl
theorem info91 : Tryd.prog.info? 91 = some Tryd.t91 := by kernel_rfl
theorem info92 : Tryd.prog.info? 92 = some Tryd.t92 := by kernel_rfl
theorem info93 : Tryd.prog.info? 93 = some Tryd.t93 := by kernel_rfl
theorem info94 : Tryd.prog.info? 94 = some Tryd.t94 := by kernel_rfl
theorem sz95 : szOf Tryd.prog 95 = some (false, 1) := by kernel_rfl
theorem info95 : Tryd.prog.info? 95 = some Tryd.t95 := by kernel_rfl
theorem info96 : Tryd.prog.info? 96 = some Tryd.t96 := by kernel_rfl
theorem sz97 : szOf Tryd.prog 97 = some (false, 1) := by kernel_rfl
theorem info97 : Tryd.prog.info? 97 = some Tryd.t97 := by kernel_rfl
theorem sz98 : szOf Tryd.prog 98 = some (true, 2) := by kernel_rfl
theorem info98 : Tryd.prog.info? 98 = some Tryd.t98 := by kernel_rfl
theorem fi98_0 : fieldInfo Tryd.prog 98 0 = some (0, false, 1) := by kernel_rfl
theorem fi98_1 : fieldInfo Tryd.prog 98 1 = some (1, false, 1) := by kernel_rfl
theorem sz99 : szOf Tryd.prog 99 = some (true, 2) := by kernel_rfl
theorem info99 : Tryd.prog.info? 99 = some Tryd.t99 := by kernel_rfl
theorem fi99_0 : fieldInfo Tryd.prog 99 0 = some (0, false, 1) := by kernel_rfl
theorem fi99_1 : fieldInfo Tryd.prog 99 1 = some (1, false, 1) := by kernel_rfl
theorem info100 : Tryd.prog.info? 100 = some Tryd.t100 := by kernel_rfl
theorem info101 : Tryd.prog.info? 101 = some Tryd.t101 := by kernel_rfl
theorem info102 : Tryd.prog.info? 102 = some Tryd.t102 := by kernel_rfl
theorem info103 : Tryd.prog.info? 103 = some Tryd.t103 := by kernel_rfl
theorem info104 : Tryd.prog.info? 104 = some Tryd.t104 := by kernel_rfl
theorem info105 : Tryd.prog.info? 105 = some Tryd.t105 := by kernel_rfl
theorem info106 : Tryd.prog.info? 106 = some Tryd.t106 := by kernel_rfl
theorem info107 : Tryd.prog.info? 107 = some Tryd.t107 := by kernel_rfl
theorem info108 : Tryd.prog.info? 108 = some Tryd.t108 := by kernel_rfl
theorem info109 : Tryd.prog.info? 109 = some Tryd.t109 := by kernel_rfl
theorem info110 : Tryd.prog.info? 110 = some Tryd.t110 := by kernel_rfl
theorem info111 : Tryd.prog.info? 111 = some Tryd.t111 := by kernel_rfl
theorem info112 : Tryd.prog.info? 112 = some Tryd.t112 := by kernel_rfl
theorem sz113 : szOf Tryd.prog 113 = some (false, 1) := by kernel_rfl
theorem info113 : Tryd.prog.info? 113 = some Tryd.t113 := by kernel_rfl
theorem info114 : Tryd.prog.info? 114 = some Tryd.t114 := by kernel_rfl
theorem info115 : Tryd.prog.info? 115 = some Tryd.t115 := by kernel_rfl
theorem info116 : Tryd.prog.info? 116 = some Tryd.t116 := by kernel_rfl
theorem info117 : Tryd.prog.info? 117 = some Tryd.t117 := by kernel_rfl
theorem info118 : Tryd.prog.info? 118 = some Tryd.t118 := by kernel_rfl
theorem sz119 : szOf Tryd.prog 119 = some (true, 24) := by kernel_rfl
theorem info119 : Tryd.prog.info? 119 = some Tryd.t119 := by kernel_rfl
theorem ar119 : arInfo Tryd.prog 119 = some (24, false, 1) := by kernel_rfl
theorem info120 : Tryd.prog.info? 120 = some Tryd.t120 := by kernel_rfl
theorem info121 : Tryd.prog.info? 121 = some Tryd.t121 := by kernel_rfl
theorem info122 : Tryd.prog.info? 122 = some Tryd.t122 := by kernel_rfl
theorem info123 : Tryd.prog.info? 123 = some Tryd.t123 := by kernel_rfl
theorem sz124 : szOf Tryd.prog 124 = some (true, 256) := by kernel_rfl
theorem ar124 : arInfo Tryd.prog 124 = some (256, false, 1) := by kernel_rfl
theorem sz125 : szOf Tryd.prog 125 = some (true, 2) := by kernel_rfl
theorem info125 : Tryd.prog.info? 125 = some Tryd.t125 := by kernel_rfl
theorem fi125_0 : fieldInfo Tryd.prog 125 0 = some (0, false, 1) := by kernel_rfl
theorem fi125_1 : fieldInfo Tryd.prog 125 1 = some (1, false, 1) := by kernel_rfl
theorem sz126 : szOf Tryd.prog 126 = some (true, 2) := by kernel_rfl
theorem info126 : Tryd.prog.info? 126 = some Tryd.t126 := by kernel_rfl
theorem fi126_0 : fieldInfo Tryd.prog 126 0 = some (0, false, 1) := by kernel_rfl
theorem fi126_1 : fieldInfo Tryd.prog 126 1 = some (1, false, 1) := by kernel_rfl
theorem sz127 : szOf Tryd.prog 127 = some (true, 32) := by kernel_rfl
theorem info127 : Tryd.prog.info? 127 = some Tryd.t127 := by kernel_rfl
theorem ar127 : arInfo Tryd.prog 127 = some (16, true, 2) := by kernel_rfl
theorem info128 : Tryd.prog.info? 128 = some Tryd.t128 := by kernel_rfl
theorem info129 : Tryd.prog.info? 129 = some Tryd.t129 := by kernel_rfl
theorem sz130 : szOf Tryd.prog 130 = some (true, 20) := by kernel_rfl
theorem info130 : Tryd.prog.info? 130 = some Tryd.t130 := by kernel_rfl
theorem ar130 : arInfo Tryd.prog 130 = some (20, false, 1) := by kernel_rfl
theorem sz131 : szOf Tryd.prog 131 = some (false, 1) := by kernel_rfl
theorem info131 : Tryd.prog.info? 131 = some Tryd.t131 := by kernel_rfl
theorem sz132 : szOf Tryd.prog 132 = some (true, 65) := by kernel_rfl
theorem ar132 : arInfo Tryd.prog 132 = some (65, false, 1) := by kernel_rfl
theorem info133 : Tryd.prog.info? 133 = some Tryd.t133 := by kernel_rfl
theorem info134 : Tryd.prog.info? 134 = some Tryd.t134 := by kernel_rfl
theorem sz135 : szOf Tryd.prog 135 = some (true, 32) := by kernel_rfl
theorem info135 : Tryd.prog.info? 135 = some Tryd.t135 := by kernel_rfl
theorem ar135 : arInfo Tryd.prog 135 = some (32, false, 1) := by kernel_rfl
theorem sz136 : szOf Tryd.prog 136 = some (true, 64) := by kernel_rfl
theorem info136 : Tryd.prog.info? 136 = some Tryd.t136 := by kernel_rfl
theorem ar136 : arInfo Tryd.prog 136 = some (64, false, 1) := by kernel_rfl
theorem sz137 : szOf Tryd.prog 137 = some (true, 4) := by kernel_rfl
theorem info137 : Tryd.prog.info? 137 = some Tryd.t137 := by kernel_rfl
theorem fi137_0 : fieldInfo Tryd.prog 137 0 = some (0, false, 1) := by kernel_rfl
theorem fi137_1 : fieldInfo Tryd.prog 137 1 = some (1, false, 1) := by kernel_rfl
theorem fi137_2 : fieldInfo Tryd.prog 137 2 = some (2, false, 1) := by kernel_rfl
theorem fi137_3 : fieldInfo Tryd.prog 137 3 = some (3, false, 1) := by kernel_rfl
theorem sz138 : szOf Tryd.prog 138 = some (true, 4) := by kernel_rfl
theorem info138 : Tryd.prog.info? 138 = some Tryd.t138 := by kernel_rfl
theorem fi138_0 : fieldInfo Tryd.prog 138 0 = some (0, false, 1) := by kernel_rfl
theorem fi138_1 : fieldInfo Tryd.prog 138 1 = some (1, false, 1) := by kernel_rfl
theorem fi138_2 : fieldInfo Tryd.prog 138 2 = some (2, false, 1) := by kernel_rfl
theorem fi138_3 : fieldInfo Tryd.prog 138 3 = some (3, false, 1) := by kernel_rfl
theorem sz139 : szOf Tryd.prog 139 = some (true, 0) := by kernel_rfl
theorem info139 : Tryd.prog.info? 139 = some Tryd.t139 := by kernel_rfl
theorem ar139 : arInfo Tryd.prog 139 = some (0, false, 1) := by kernel_rfl
theorem sz140 : szOf Tryd.prog 140 = some (true, 0) := by kernel_rfl
theorem info140 : Tryd.prog.info? 140 = some Tryd.t140 := by kernel_rfl
theorem fi140_0 : fieldInfo Tryd.prog 140 0 = some (0, true, 0) := by kernel_rfl
theorem sz141 : szOf Tryd.prog 141 = some (true, 0) := by kernel_rfl
theorem info141 : Tryd.prog.info? 141 = some Tryd.t141 := by kernel_rfl
theorem fi141_0 : fieldInfo Tryd.prog 141 0 = some (0, true, 0) := by kernel_rfl
theorem sz142 : szOf Tryd.prog 142 = some (false, 1) := by kernel_rfl
theorem info142 : Tryd.prog.info? 142 = some Tryd.t142 := by kernel_rfl
theorem sz143 : szOf Tryd.prog 143 = some (false, 1) := by kernel_rfl
theorem info143 : Tryd.prog.info? 143 = some Tryd.t143 := by kernel_rfl
theorem info144 : Tryd.prog.info? 144 = some Tryd.t144 := by kernel_rfl
theorem sz145 : szOf Tryd.prog 145 = some (false, 1) := by kernel_rfl
theorem info145 : Tryd.prog.info? 145 = some Tryd.t145 := by kernel_rfl
theorem sz146 : szOf Tryd.prog 146 = some (false, 1) := by kernel_rfl
theorem info146 : Tryd.prog.info? 146 = some Tryd.t146 := by kernel_rfl
theorem sz147 : szOf Tryd.prog 147 = some (true, 11) := by kernel_rfl
theorem info147 : Tryd.prog.info? 147 = some Tryd.t147 := by kernel_rfl
theorem fi147_0 : fieldInfo Tryd.prog 147 0 = some (0, false, 1) := by kernel_rfl
theorem fi147_1 : fieldInfo Tryd.prog 147 1 = some (1, false, 1) := by kernel_rfl
theorem fi147_2 : fieldInfo Tryd.prog 147 2 = some (2, false, 1) := by kernel_rfl
theorem fi147_3 : fieldInfo Tryd.prog 147 3 = some (3, false, 1) := by kernel_rfl
theorem fi147_4 : fieldInfo Tryd.prog 147 4 = some (4, false, 1) := by kernel_rfl
theorem fi147_5 : fieldInfo Tryd.prog 147 5 = some (5, false, 1) := by kernel_rfl
theorem fi147_6 : fieldInfo Tryd.prog 147 6 = some (6, false, 1) := by kernel_rfl
theorem fi147_7 : fieldInfo Tryd.prog 147 7 = some (7, false, 1) := by kernel_rfl
theorem fi147_8 : fieldInfo Tryd.prog 147 8 = some (8, false, 1) := by kernel_rfl
theorem fi147_9 : fieldInfo Tryd.prog 147 9 = some (9, false, 1) := by kernel_rfl
theorem fi147_10 : fieldInfo Tryd.prog 147 10 = some (10, false, 1) := by kernel_rfl
theorem sz148 : szOf Tryd.prog 148 = some (true, 11) := by kernel_rfl
theorem info148 : Tryd.prog.info? 148 = some Tryd.t148 := by kernel_rfl
theorem fi148_0 : fieldInfo Tryd.prog 148 0 = some (0, false, 1) := by kernel_rfl
theorem fi148_1 : fieldInfo Tryd.prog 148 1 = some (1, false, 1) := by kernel_rfl
theorem fi148_2 : fieldInfo Tryd.prog 148 2 = some (2, false, 1) := by kernel_rfl
theorem fi148_3 : fieldInfo Tryd.prog 148 3 = some (3, false, 1) := by kernel_rfl
theorem fi148_4 : fieldInfo Tryd.prog 148 4 = some (4, false, 1) := by kernel_rfl
theorem fi148_5 : fieldInfo Tryd.prog 148 5 = some (5, false, 1) := by kernel_rfl
theorem fi148_6 : fieldInfo Tryd.prog 148 6 = some (6, false, 1) := by kernel_rfl
theorem fi148_7 : fieldInfo Tryd.prog 148 7 = some (7, false, 1) := by kernel_rfl
theorem fi148_8 : fieldInfo Tryd.prog 148 8 = some (8, false, 1) := by kernel_rfl
theorem fi148_9 : fieldInfo Tryd.prog 148 9 = some (9, false, 1) := by kernel_rfl
theorem fi148_10 : fieldInfo Tryd.prog 148 10 = some (10, false, 1) := by kernel_rfl
end Go.Proofs.YtakfcekfmdjklaaDoor
