/-
  What the laws of text Eng2 ask of the types: each fact off the program.
-/
import Derived.Test.YtdbbigjoloinpaaDoorRows
import Derived.Test.YtdbbigjoloinpaaDoorEng2
namespace Go.Proofs.YtdbbigjoloinpaaDoor
theorem mixed : Tryd.prog.follows .mixedOrders = true := by kernel_rfl
theorem info0 : Tryd.prog.info? 0 = some Tryd.t0 := by kernel_rfl
theorem info1 : Tryd.prog.info? 1 = some Tryd.t1 := by kernel_rfl
theorem sz2 : szOf Tryd.prog 2 = some (false, 1) := by kernel_rfl
theorem info2 : Tryd.prog.info? 2 = some Tryd.t2 := by kernel_rfl
theorem sz3 : szOf Tryd.prog 3 = some (false, 1) := by kernel_rfl
theorem info3 : Tryd.prog.info? 3 = some Tryd.t3 := by kernel_rfl
theorem sz4 : szOf Tryd.prog 4 = some (false, 1) := by kernel_rfl
theorem info4 : Tryd.prog.info? 4 = some Tryd.t4 := by kernel_rfl
theorem sz5 : szOf Tryd.prog 5 = some (false, 1) := by kernel_rfl
theorem info5 : Tryd.prog.info? 5 = some Tryd.t5 := by kernel_rfl
theorem sz6 : szOf Tryd.prog 6 = some (false, 1) := by kernel_rfl
theorem info6 : Tryd.prog.info? 6 = some Tryd.t6 := by kernel_rfl
theorem sz7 : szOf Tryd.prog 7 = some (true, 4) := by kernel_rfl
theorem info7 : Tryd.prog.info? 7 = some Tryd.t7 := by kernel_rfl
theorem fi7_0 : fieldInfo Tryd.prog 7 0 = some (0, false, 1) := by kernel_rfl
theorem fi7_1 : fieldInfo Tryd.prog 7 1 = some (1, false, 1) := by kernel_rfl
theorem fi7_2 : fieldInfo Tryd.prog 7 2 = some (2, false, 1) := by kernel_rfl
theorem fi7_3 : fieldInfo Tryd.prog 7 3 = some (3, false, 1) := by kernel_rfl
theorem sz8 : szOf Tryd.prog 8 = some (true, 4) := by kernel_rfl
theorem info8 : Tryd.prog.info? 8 = some Tryd.t8 := by kernel_rfl
theorem fi8_0 : fieldInfo Tryd.prog 8 0 = some (0, false, 1) := by kernel_rfl
theorem fi8_1 : fieldInfo Tryd.prog 8 1 = some (1, false, 1) := by kernel_rfl
theorem fi8_2 : fieldInfo Tryd.prog 8 2 = some (2, false, 1) := by kernel_rfl
theorem fi8_3 : fieldInfo Tryd.prog 8 3 = some (3, false, 1) := by kernel_rfl
theorem sz9 : szOf Tryd.prog 9 = some (false, 1) := by kernel_rfl
theorem info9 : Tryd.prog.info? 9 = some Tryd.t9 := by kernel_rfl
theorem sz10 : szOf Tryd.prog 10 = some (false, 1) := by kernel_rfl
theorem info10 : Tryd.prog.info? 10 = some Tryd.t10 := by kernel_rfl
theorem sz11 : szOf Tryd.prog 11 = some (false, 1) := by kernel_rfl
theorem info11 : Tryd.prog.info? 11 = some Tryd.t11 := by kernel_rfl
theorem sz12 : szOf Tryd.prog 12 = some (false, 1) := by kernel_rfl
theorem info12 : Tryd.prog.info? 12 = some Tryd.t12 := by kernel_rfl
theorem sz13 : szOf Tryd.prog 13 = some (true, 2) := by kernel_rfl
theorem info13 : Tryd.prog.info? 13 = some Tryd.t13 := by kernel_rfl
theorem fi13_0 : fieldInfo Tryd.prog 13 0 = some (0, false, 1) := by kernel_rfl
theorem fi13_1 : fieldInfo Tryd.prog 13 1 = some (1, false, 1) := by kernel_rfl
theorem sz14 : szOf Tryd.prog 14 = some (true, 2) := by kernel_rfl
theorem info14 : Tryd.prog.info? 14 = some Tryd.t14 := by kernel_rfl
theorem fi14_0 : fieldInfo Tryd.prog 14 0 = some (0, false, 1) := by kernel_rfl
theorem fi14_1 : fieldInfo Tryd.prog 14 1 = some (1, false, 1) := by kernel_rfl
theorem sz15 : szOf Tryd.prog 15 = some (false, 1) := by kernel_rfl
theorem info15 : Tryd.prog.info? 15 = some Tryd.t15 := by kernel_rfl
theorem sz16 : szOf Tryd.prog 16 = some (false, 1) := by kernel_rfl
theorem info16 : Tryd.prog.info? 16 = some Tryd.t16 := by kernel_rfl
theorem sz17 : szOf Tryd.prog 17 = some (false, 1) := by kernel_rfl
theorem info17 : Tryd.prog.info? 17 = some Tryd.t17 := by kernel_rfl
theorem sz18 : szOf Tryd.prog 18 = some (true, 1) := by kernel_rfl
theorem info18 : Tryd.prog.info? 18 = some Tryd.t18 := by kernel_rfl
theorem fi18_0 : fieldInfo Tryd.prog 18 0 = some (0, false, 1) := by kernel_rfl
theorem sz19 : szOf Tryd.prog 19 = some (true, 1) := by kernel_rfl
theorem info19 : Tryd.prog.info? 19 = some Tryd.t19 := by kernel_rfl
theorem fi19_0 : fieldInfo Tryd.prog 19 0 = some (0, false, 1) := by kernel_rfl
theorem info20 : Tryd.prog.info? 20 = some Tryd.t20 := by kernel_rfl
theorem sz21 : szOf Tryd.prog 21 = some (false, 1) := by kernel_rfl
theorem info21 : Tryd.prog.info? 21 = some Tryd.t21 := by kernel_rfl
theorem info22 : Tryd.prog.info? 22 = some Tryd.t22 := by kernel_rfl
theorem sz23 : szOf Tryd.prog 23 = some (false, 1) := by kernel_rfl
theorem info23 : Tryd.prog.info? 23 = some Tryd.t23 := by kernel_rfl
theorem sl23 : slInfo Tryd.prog 23 = some (true, 4) := by kernel_rfl
theorem sz24 : szOf Tryd.prog 24 = some (false, 1) := by kernel_rfl
theorem info24 : Tryd.prog.info? 24 = some Tryd.t24 := by kernel_rfl
theorem info25 : Tryd.prog.info? 25 = some Tryd.t25 := by kernel_rfl
theorem info26 : Tryd.prog.info? 26 = some Tryd.t26 := by kernel_rfl
theorem sz27 : szOf Tryd.prog 27 = some (false, 1) := by kernel_rfl
theorem info27 : Tryd.prog.info? 27 = some Tryd.t27 := by kernel_rfl
theorem sl27 : slInfo Tryd.prog 27 = some (true, 4) := by kernel_rfl
theorem info28 : Tryd.prog.info? 28 = some Tryd.t28 := by kernel_rfl
theorem info29 : Tryd.prog.info? 29 = some Tryd.t29 := by kernel_rfl
theorem info30 : Tryd.prog.info? 30 = some Tryd.t30 := by kernel_rfl
theorem info31 : Tryd.prog.info? 31 = some Tryd.t31 := by kernel_rfl
theorem info32 : Tryd.prog.info? 32 = some Tryd.t32 := by kernel_rfl
theorem sz33 : szOf Tryd.prog 33 = some (false, 1) := by kernel_rfl
theorem info33 : Tryd.prog.info? 33 = some Tryd.t33 := by kernel_rfl
theorem sl33 : slInfo Tryd.prog 33 = some (false, 1) := by kernel_rfl
theorem sz34 : szOf Tryd.prog 34 = some (false, 1) := by kernel_rfl
theorem info34 : Tryd.prog.info? 34 = some Tryd.t34 := by kernel_rfl
theorem sl34 : slInfo Tryd.prog 34 = some (false, 1) := by kernel_rfl
theorem sz35 : szOf Tryd.prog 35 = some (true, 4) := by kernel_rfl
theorem info35 : Tryd.prog.info? 35 = some Tryd.t35 := by kernel_rfl
theorem fi35_0 : fieldInfo Tryd.prog 35 0 = some (0, false, 1) := by kernel_rfl
theorem fi35_1 : fieldInfo Tryd.prog 35 1 = some (1, false, 1) := by kernel_rfl
theorem fi35_2 : fieldInfo Tryd.prog 35 2 = some (2, false, 1) := by kernel_rfl
theorem fi35_3 : fieldInfo Tryd.prog 35 3 = some (3, false, 1) := by kernel_rfl
theorem sz36 : szOf Tryd.prog 36 = some (true, 4) := by kernel_rfl
theorem info36 : Tryd.prog.info? 36 = some Tryd.t36 := by kernel_rfl
theorem fi36_0 : fieldInfo Tryd.prog 36 0 = some (0, false, 1) := by kernel_rfl
theorem fi36_1 : fieldInfo Tryd.prog 36 1 = some (1, false, 1) := by kernel_rfl
theorem fi36_2 : fieldInfo Tryd.prog 36 2 = some (2, false, 1) := by kernel_rfl
theorem fi36_3 : fieldInfo Tryd.prog 36 3 = some (3, false, 1) := by kernel_rfl
theorem info37 : Tryd.prog.info? 37 = some Tryd.t37 := by kernel_rfl
theorem info38 : Tryd.prog.info? 38 = some Tryd.t38 := by kernel_rfl
theorem sz39 : szOf Tryd.prog 39 = some (false, 1) := by kernel_rfl
theorem info39 : Tryd.prog.info? 39 = some Tryd.t39 := by kernel_rfl
theorem info40 : Tryd.prog.info? 40 = some Tryd.t40 := by kernel_rfl
theorem info41 : Tryd.prog.info? 41 = some Tryd.t41 := by kernel_rfl
theorem info42 : Tryd.prog.info? 42 = some Tryd.t42 := by kernel_rfl
theorem info43 : Tryd.prog.info? 43 = some Tryd.t43 := by kernel_rfl
theorem info44 : Tryd.prog.info? 44 = some Tryd.t44 := by kernel_rfl
theorem info45 : Tryd.prog.info? 45 = some Tryd.t45 := by kernel_rfl
theorem info46 : Tryd.prog.info? 46 = some Tryd.t46 := by kernel_rfl
theorem info47 : Tryd.prog.info? 47 = some Tryd.t47 := by kernel_rfl
theorem info48 : Tryd.prog.info? 48 = some Tryd.t48 := by kernel_rfl
theorem info49 : Tryd.prog.info? 49 = some Tryd.t49 := by kernel_rfl
theorem info50 : Tryd.prog.info? 50 = some Tryd.t50 := by kernel_rfl
theorem info51 : Tryd.prog.info? 51 = some Tryd.t51 := by kernel_rfl
theorem info52 : Tryd.prog.info? 52 = some Tryd.t52 := by kernel_rfl
theorem sz53 : szOf Tryd.prog 53 = some (false, 1) := by kernel_rfl
theorem info53 : Tryd.prog.info? 53 = some Tryd.t53 := by kernel_rfl
theorem sz54 : szOf Tryd.prog 54 = some (true, 3) := by kernel_rfl
theorem info54 : Tryd.prog.info? 54 = some Tryd.t54 := by kernel_rfl
theorem fi54_0 : fieldInfo Tryd.prog 54 0 = some (0, false, 1) := by kernel_rfl
theorem fi54_1 : fieldInfo Tryd.prog 54 1 = some (1, false, 1) := by kernel_rfl
theorem fi54_2 : fieldInfo Tryd.prog 54 2 = some (2, false, 1) := by kernel_rfl
theorem sz55 : szOf Tryd.prog 55 = some (true, 3) := by kernel_rfl
theorem info55 : Tryd.prog.info? 55 = some Tryd.t55 := by kernel_rfl
theorem fi55_0 : fieldInfo Tryd.prog 55 0 = some (0, false, 1) := by kernel_rfl
theorem fi55_1 : fieldInfo Tryd.prog 55 1 = some (1, false, 1) := by kernel_rfl
theorem fi55_2 : fieldInfo Tryd.prog 55 2 = some (2, false, 1) := by kernel_rfl
theorem info56 : Tryd.prog.info? 56 = some Tryd.t56 := by kernel_rfl
theorem info57 : Tryd.prog.info? 57 = some Tryd.t57 := by kernel_rfl
theorem sz58 : szOf Tryd.prog 58 = some (true, 4) := by kernel_rfl
theorem info58 : Tryd.prog.info? 58 = some Tryd.t58 := by kernel_rfl
theorem fi58_0 : fieldInfo Tryd.prog 58 0 = some (0, false, 1) := by kernel_rfl
theorem fi58_1 : fieldInfo Tryd.prog 58 1 = some (1, false, 1) := by kernel_rfl
theorem fi58_2 : fieldInfo Tryd.prog 58 2 = some (2, false, 1) := by kernel_rfl
theorem fi58_3 : fieldInfo Tryd.prog 58 3 = some (3, false, 1) := by kernel_rfl
theorem info59 : Tryd.prog.info? 59 = some Tryd.t59 := by kernel_rfl
theorem info60 : Tryd.prog.info? 60 = some Tryd.t60 := by kernel_rfl
theorem info61 : Tryd.prog.info? 61 = some Tryd.t61 := by kernel_rfl
theorem info62 : Tryd.prog.info? 62 = some Tryd.t62 := by kernel_rfl
theorem info63 : Tryd.prog.info? 63 = some Tryd.t63 := by kernel_rfl
theorem info64 : Tryd.prog.info? 64 = some Tryd.t64 := by kernel_rfl
theorem info65 : Tryd.prog.info? 65 = some Tryd.t65 := by kernel_rfl
theorem sz66 : szOf Tryd.prog 66 = some (true, 24) := by kernel_rfl
theorem info66 : Tryd.prog.info? 66 = some Tryd.t66 := by kernel_rfl
theorem ar66 : arInfo Tryd.prog 66 = some (24, false, 1) := by kernel_rfl
theorem info67 : Tryd.prog.info? 67 = some Tryd.t67 := by kernel_rfl
theorem info68 : Tryd.prog.info? 68 = some Tryd.t68 := by kernel_rfl
theorem info69 : Tryd.prog.info? 69 = some Tryd.t69 := by kernel_rfl
theorem info70 : Tryd.prog.info? 70 = some Tryd.t70 := by kernel_rfl
theorem sz71 : szOf Tryd.prog 71 = some (true, 256) := by kernel_rfl
theorem ar71 : arInfo Tryd.prog 71 = some (256, false, 1) := by kernel_rfl
theorem sz72 : szOf Tryd.prog 72 = some (false, 1) := by kernel_rfl
theorem info72 : Tryd.prog.info? 72 = some Tryd.t72 := by kernel_rfl
theorem sz73 : szOf Tryd.prog 73 = some (true, 2) := by kernel_rfl
theorem info73 : Tryd.prog.info? 73 = some Tryd.t73 := by kernel_rfl
theorem fi73_0 : fieldInfo Tryd.prog 73 0 = some (0, false, 1) := by kernel_rfl
theorem fi73_1 : fieldInfo Tryd.prog 73 1 = some (1, false, 1) := by kernel_rfl
theorem sz74 : szOf Tryd.prog 74 = some (true, 2) := by kernel_rfl
theorem info74 : Tryd.prog.info? 74 = some Tryd.t74 := by kernel_rfl
theorem fi74_0 : fieldInfo Tryd.prog 74 0 = some (0, false, 1) := by kernel_rfl
theorem fi74_1 : fieldInfo Tryd.prog 74 1 = some (1, false, 1) := by kernel_rfl
theorem sz75 : szOf Tryd.prog 75 = some (true, 32) := by kernel_rfl
theorem info75 : Tryd.prog.info? 75 = some Tryd.t75 := by kernel_rfl
theorem ar75 : arInfo Tryd.prog 75 = some (16, true, 2) := by kernel_rfl
theorem info76 : Tryd.prog.info? 76 = some Tryd.t76 := by kernel_rfl
theorem info77 : Tryd.prog.info? 77 = some Tryd.t77 := by kernel_rfl
theorem sz78 : szOf Tryd.prog 78 = some (true, 20) := by kernel_rfl
theorem info78 : Tryd.prog.info? 78 = some Tryd.t78 := by kernel_rfl
theorem ar78 : arInfo Tryd.prog 78 = some (20, false, 1) := by kernel_rfl
theorem sz79 : szOf Tryd.prog 79 = some (false, 1) := by kernel_rfl
theorem info79 : Tryd.prog.info? 79 = some Tryd.t79 := by kernel_rfl
theorem sz80 : szOf Tryd.prog 80 = some (true, 65) := by kernel_rfl
theorem ar80 : arInfo Tryd.prog 80 = some (65, false, 1) := by kernel_rfl
theorem info81 : Tryd.prog.info? 81 = some Tryd.t81 := by kernel_rfl
theorem info82 : Tryd.prog.info? 82 = some Tryd.t82 := by kernel_rfl
theorem info83 : Tryd.prog.info? 83 = some Tryd.t83 := by kernel_rfl
theorem sz84 : szOf Tryd.prog 84 = some (true, 32) := by kernel_rfl
theorem info84 : Tryd.prog.info? 84 = some Tryd.t84 := by kernel_rfl
theorem ar84 : arInfo Tryd.prog 84 = some (32, false, 1) := by kernel_rfl
theorem sz85 : szOf Tryd.prog 85 = some (true, 64) := by kernel_rfl
theorem info85 : Tryd.prog.info? 85 = some Tryd.t85 := by kernel_rfl
theorem ar85 : arInfo Tryd.prog 85 = some (64, false, 1) := by kernel_rfl
theorem info86 : Tryd.prog.info? 86 = some Tryd.t86 := by kernel_rfl
theorem sz87 : szOf Tryd.prog 87 = some (true, 4) := by kernel_rfl
theorem info87 : Tryd.prog.info? 87 = some Tryd.t87 := by kernel_rfl
theorem fi87_0 : fieldInfo Tryd.prog 87 0 = some (0, false, 1) := by kernel_rfl
theorem fi87_1 : fieldInfo Tryd.prog 87 1 = some (1, false, 1) := by kernel_rfl
theorem fi87_2 : fieldInfo Tryd.prog 87 2 = some (2, false, 1) := by kernel_rfl
theorem fi87_3 : fieldInfo Tryd.prog 87 3 = some (3, false, 1) := by kernel_rfl
theorem sz88 : szOf Tryd.prog 88 = some (true, 4) := by kernel_rfl
theorem info88 : Tryd.prog.info? 88 = some Tryd.t88 := by kernel_rfl
theorem fi88_0 : fieldInfo Tryd.prog 88 0 = some (0, false, 1) := by kernel_rfl
theorem fi88_1 : fieldInfo Tryd.prog 88 1 = some (1, false, 1) := by kernel_rfl
theorem fi88_2 : fieldInfo Tryd.prog 88 2 = some (2, false, 1) := by kernel_rfl
theorem fi88_3 : fieldInfo Tryd.prog 88 3 = some (3, false, 1) := by kernel_rfl
theorem sz89 : szOf Tryd.prog 89 = some (true, 0) := by kernel_rfl
theorem info89 : Tryd.prog.info? 89 = some Tryd.t89 := by kernel_rfl
theorem ar89 : arInfo Tryd.prog 89 = some (0, false, 1) := by kernel_rfl
theorem sz90 : szOf Tryd.prog 90 = some (true, 0) := by kernel_rfl
theorem info90 : Tryd.prog.info? 90 = some Tryd.t90 := by kernel_rfl
theorem fi90_0 : fieldInfo Tryd.prog 90 0 = some (0, true, 0) := by kernel_rfl
theorem sz91 : szOf Tryd.prog 91 = some (true, 0) := by kernel_rfl
theorem info91 : Tryd.prog.info? 91 = some Tryd.t91 := by kernel_rfl
theorem fi91_0 : fieldInfo Tryd.prog 91 0 = some (0, true, 0) := by kernel_rfl
theorem sz92 : szOf Tryd.prog 92 = some (false, 1) := by kernel_rfl
theorem info92 : Tryd.prog.info? 92 = some Tryd.t92 := by kernel_rfl
theorem sz93 : szOf Tryd.prog 93 = some (false, 1) := by kernel_rfl
theorem info93 : Tryd.prog.info? 93 = some Tryd.t93 := by kernel_rfl
theorem info94 : Tryd.prog.info? 94 = some Tryd.t94 := by kernel_rfl
theorem sz95 : szOf Tryd.prog 95 = some (false, 1) := by kernel_rfl
theorem info95 : Tryd.prog.info? 95 = some Tryd.t95 := by kernel_rfl
theorem sz96 : szOf Tryd.prog 96 = some (false, 1) := by kernel_rfl
theorem info96 : Tryd.prog.info? 96 = some Tryd.t96 := by kernel_rfl
theorem sz97 : szOf Tryd.prog 97 = some (false, 1) := by kernel_rfl
theorem info97 : Tryd.prog.info? 97 = some Tryd.t97 := by kernel_rfl
theorem sz98 : szOf Tryd.prog 98 = some (true, 11) := by kernel_rfl
theorem info98 : Tryd.prog.info? 98 = some Tryd.t98 := by kernel_rfl
theorem fi98_0 : fieldInfo Tryd.prog 98 0 = some (0, false, 1) := by kernel_rfl
theorem fi98_1 : fieldInfo Tryd.prog 98 1 = some (1, false, 1) := by kernel_rfl
theorem fi98_2 : fieldInfo Tryd.prog 98 2 = some (2, false, 1) := by kernel_rfl
theorem fi98_3 : fieldInfo Tryd.prog 98 3 = some (3, false, 1) := by kernel_rfl
theorem fi98_4 : fieldInfo Tryd.prog 98 4 = some (4, false, 1) := by kernel_rfl
theorem fi98_5 : fieldInfo Tryd.prog 98 5 = some (5, false, 1) := by kernel_rfl
theorem fi98_6 : fieldInfo Tryd.prog 98 6 = some (6, false, 1) := by kernel_rfl
theorem fi98_7 : fieldInfo Tryd.prog 98 7 = some (7, false, 1) := by kernel_rfl
theorem fi98_8 : fieldInfo Tryd.prog 98 8 = some (8, false, 1) := by kernel_rfl
theorem fi98_9 : fieldInfo Tryd.prog 98 9 = some (9, false, 1) := by kernel_rfl
theorem fi98_10 : fieldInfo Tryd.prog 98 10 = some (10, false, 1) := by kernel_rfl
theorem sz99 : szOf Tryd.prog 99 = some (true, 11) := by kernel_rfl
theorem info99 : Tryd.prog.info? 99 = some Tryd.t99 := by kernel_rfl
theorem fi99_0 : fieldInfo Tryd.prog 99 0 = some (0, false, 1) := by kernel_rfl
theorem fi99_1 : fieldInfo Tryd.prog 99 1 = some (1, false, 1) := by kernel_rfl
theorem fi99_2 : fieldInfo Tryd.prog 99 2 = some (2, false, 1) := by kernel_rfl
theorem fi99_3 : fieldInfo Tryd.prog 99 3 = some (3, false, 1) := by kernel_rfl
theorem fi99_4 : fieldInfo Tryd.prog 99 4 = some (4, false, 1) := by kernel_rfl
theorem fi99_5 : fieldInfo Tryd.prog 99 5 = some (5, false, 1) := by kernel_rfl
theorem fi99_6 : fieldInfo Tryd.prog 99 6 = some (6, false, 1) := by kernel_rfl
theorem fi99_7 : fieldInfo Tryd.prog 99 7 = some (7, false, 1) := by kernel_rfl
theorem fi99_8 : fieldInfo Tryd.prog 99 8 = some (8, false, 1) := by kernel_rfl
theorem fi99_9 : fieldInfo Tryd.prog 99 9 = some (9, false, 1) := by kernel_rfl
theorem fi99_10 : fieldInfo Tryd.prog 99 10 = some (10, false, 1) := by kernel_rfl
theorem info100 : Tryd.prog.info? 100 = some Tryd.t100 := by kernel_rfl
end Go.Proofs.YtdbbigjoloinpaaDoor
