/-
  What the laws of text Eng2 ask of the types: each fact off the program.
-/
import Derived.Test.YtlkemphhbamcfaaRows
import Derived.Test.YtlkemphhbamcfaaEng2
namespace Go.Proofs.Ytlkemphhbamcfaa
theorem mixed : Try.prog.follows .mixedOrders = true := by kernel_rfl
theorem info0 : Try.prog.info? 0 = some Try.t0 := by kernel_rfl
theorem info1 : Try.prog.info? 1 = some Try.t1 := by kernel_rfl
theorem sz2 : szOf Try.prog 2 = some (false, 1) := by kernel_rfl
theorem info2 : Try.prog.info? 2 = some Try.t2 := by kernel_rfl
theorem sz3 : szOf Try.prog 3 = some (false, 1) := by kernel_rfl
theorem info3 : Try.prog.info? 3 = some Try.t3 := by kernel_rfl
theorem sz4 : szOf Try.prog 4 = some (false, 1) := by kernel_rfl
theorem info4 : Try.prog.info? 4 = some Try.t4 := by kernel_rfl
theorem sz5 : szOf Try.prog 5 = some (false, 1) := by kernel_rfl
theorem info5 : Try.prog.info? 5 = some Try.t5 := by kernel_rfl
theorem sz6 : szOf Try.prog 6 = some (false, 1) := by kernel_rfl
theorem info6 : Try.prog.info? 6 = some Try.t6 := by kernel_rfl
theorem sz7 : szOf Try.prog 7 = some (true, 4) := by kernel_rfl
theorem info7 : Try.prog.info? 7 = some Try.t7 := by kernel_rfl
theorem fi7_0 : fieldInfo Try.prog 7 0 = some (0, false, 1) := by kernel_rfl
theorem fi7_1 : fieldInfo Try.prog 7 1 = some (1, false, 1) := by kernel_rfl
theorem fi7_2 : fieldInfo Try.prog 7 2 = some (2, false, 1) := by kernel_rfl
theorem fi7_3 : fieldInfo Try.prog 7 3 = some (3, false, 1) := by kernel_rfl
theorem sz8 : szOf Try.prog 8 = some (true, 4) := by kernel_rfl
theorem info8 : Try.prog.info? 8 = some Try.t8 := by kernel_rfl
theorem fi8_0 : fieldInfo Try.prog 8 0 = some (0, false, 1) := by kernel_rfl
theorem fi8_1 : fieldInfo Try.prog 8 1 = some (1, false, 1) := by kernel_rfl
theorem fi8_2 : fieldInfo Try.prog 8 2 = some (2, false, 1) := by kernel_rfl
theorem fi8_3 : fieldInfo Try.prog 8 3 = some (3, false, 1) := by kernel_rfl
theorem sz9 : szOf Try.prog 9 = some (false, 1) := by kernel_rfl
theorem info9 : Try.prog.info? 9 = some Try.t9 := by kernel_rfl
theorem sz10 : szOf Try.prog 10 = some (false, 1) := by kernel_rfl
theorem info10 : Try.prog.info? 10 = some Try.t10 := by kernel_rfl
theorem sz11 : szOf Try.prog 11 = some (false, 1) := by kernel_rfl
theorem info11 : Try.prog.info? 11 = some Try.t11 := by kernel_rfl
theorem sz12 : szOf Try.prog 12 = some (false, 1) := by kernel_rfl
theorem info12 : Try.prog.info? 12 = some Try.t12 := by kernel_rfl
theorem sz13 : szOf Try.prog 13 = some (true, 2) := by kernel_rfl
theorem info13 : Try.prog.info? 13 = some Try.t13 := by kernel_rfl
theorem fi13_0 : fieldInfo Try.prog 13 0 = some (0, false, 1) := by kernel_rfl
theorem fi13_1 : fieldInfo Try.prog 13 1 = some (1, false, 1) := by kernel_rfl
theorem sz14 : szOf Try.prog 14 = some (true, 2) := by kernel_rfl
theorem info14 : Try.prog.info? 14 = some Try.t14 := by kernel_rfl
theorem fi14_0 : fieldInfo Try.prog 14 0 = some (0, false, 1) := by kernel_rfl
theorem fi14_1 : fieldInfo Try.prog 14 1 = some (1, false, 1) := by kernel_rfl
theorem sz15 : szOf Try.prog 15 = some (false, 1) := by kernel_rfl
theorem info15 : Try.prog.info? 15 = some Try.t15 := by kernel_rfl
theorem sz16 : szOf Try.prog 16 = some (false, 1) := by kernel_rfl
theorem info16 : Try.prog.info? 16 = some Try.t16 := by kernel_rfl
theorem sz17 : szOf Try.prog 17 = some (false, 1) := by kernel_rfl
theorem info17 : Try.prog.info? 17 = some Try.t17 := by kernel_rfl
theorem sz18 : szOf Try.prog 18 = some (true, 1) := by kernel_rfl
theorem info18 : Try.prog.info? 18 = some Try.t18 := by kernel_rfl
theorem fi18_0 : fieldInfo Try.prog 18 0 = some (0, false, 1) := by kernel_rfl
theorem sz19 : szOf Try.prog 19 = some (true, 1) := by kernel_rfl
theorem info19 : Try.prog.info? 19 = some Try.t19 := by kernel_rfl
theorem fi19_0 : fieldInfo Try.prog 19 0 = some (0, false, 1) := by kernel_rfl
theorem info20 : Try.prog.info? 20 = some Try.t20 := by kernel_rfl
theorem sz21 : szOf Try.prog 21 = some (false, 1) := by kernel_rfl
theorem info21 : Try.prog.info? 21 = some Try.t21 := by kernel_rfl
theorem sz22 : szOf Try.prog 22 = some (false, 1) := by kernel_rfl
theorem info22 : Try.prog.info? 22 = some Try.t22 := by kernel_rfl
theorem info23 : Try.prog.info? 23 = some Try.t23 := by kernel_rfl
theorem info24 : Try.prog.info? 24 = some Try.t24 := by kernel_rfl
theorem info25 : Try.prog.info? 25 = some Try.t25 := by kernel_rfl
theorem info26 : Try.prog.info? 26 = some Try.t26 := by kernel_rfl
theorem info27 : Try.prog.info? 27 = some Try.t27 := by kernel_rfl
theorem info28 : Try.prog.info? 28 = some Try.t28 := by kernel_rfl
theorem sz29 : szOf Try.prog 29 = some (true, 9) := by kernel_rfl
theorem info29 : Try.prog.info? 29 = some Try.t29 := by kernel_rfl
theorem ar29 : arInfo Try.prog 29 = some (9, false, 1) := by kernel_rfl
theorem sz30 : szOf Try.prog 30 = some (true, 9) := by kernel_rfl
theorem info30 : Try.prog.info? 30 = some Try.t30 := by kernel_rfl
theorem ar30 : arInfo Try.prog 30 = some (9, false, 1) := by kernel_rfl
theorem sz31 : szOf Try.prog 31 = some (true, 10) := by kernel_rfl
theorem info31 : Try.prog.info? 31 = some Try.t31 := by kernel_rfl
theorem fi31_0 : fieldInfo Try.prog 31 0 = some (0, false, 1) := by kernel_rfl
theorem fi31_1 : fieldInfo Try.prog 31 1 = some (1, true, 9) := by kernel_rfl
theorem sz32 : szOf Try.prog 32 = some (true, 10) := by kernel_rfl
theorem info32 : Try.prog.info? 32 = some Try.t32 := by kernel_rfl
theorem fi32_0 : fieldInfo Try.prog 32 0 = some (0, false, 1) := by kernel_rfl
theorem fi32_1 : fieldInfo Try.prog 32 1 = some (1, true, 9) := by kernel_rfl
theorem info33 : Try.prog.info? 33 = some Try.t33 := by kernel_rfl
theorem info34 : Try.prog.info? 34 = some Try.t34 := by kernel_rfl
theorem info35 : Try.prog.info? 35 = some Try.t35 := by kernel_rfl
theorem info36 : Try.prog.info? 36 = some Try.t36 := by kernel_rfl
theorem info37 : Try.prog.info? 37 = some Try.t37 := by kernel_rfl
theorem info38 : Try.prog.info? 38 = some Try.t38 := by kernel_rfl
theorem info39 : Try.prog.info? 39 = some Try.t39 := by kernel_rfl
theorem sz40 : szOf Try.prog 40 = some (false, 1) := by kernel_rfl
theorem info40 : Try.prog.info? 40 = some Try.t40 := by kernel_rfl
theorem sl40 : slInfo Try.prog 40 = some (false, 1) := by kernel_rfl
theorem info41 : Try.prog.info? 41 = some Try.t41 := by kernel_rfl
theorem info42 : Try.prog.info? 42 = some Try.t42 := by kernel_rfl
theorem info43 : Try.prog.info? 43 = some Try.t43 := by kernel_rfl
theorem info44 : Try.prog.info? 44 = some Try.t44 := by kernel_rfl
theorem info45 : Try.prog.info? 45 = some Try.t45 := by kernel_rfl
theorem info46 : Try.prog.info? 46 = some Try.t46 := by kernel_rfl
theorem sz47 : szOf Try.prog 47 = some (true, 2) := by kernel_rfl
theorem info47 : Try.prog.info? 47 = some Try.t47 := by kernel_rfl
theorem ar47 : arInfo Try.prog 47 = some (2, false, 1) := by kernel_rfl
theorem info48 : Try.prog.info? 48 = some Try.t48 := by kernel_rfl
theorem info49 : Try.prog.info? 49 = some Try.t49 := by kernel_rfl
theorem info50 : Try.prog.info? 50 = some Try.t50 := by kernel_rfl
theorem info51 : Try.prog.info? 51 = some Try.t51 := by kernel_rfl
theorem sz52 : szOf Try.prog 52 = some (false, 1) := by kernel_rfl
theorem info52 : Try.prog.info? 52 = some Try.t52 := by kernel_rfl
theorem sz53 : szOf Try.prog 53 = some (true, 2) := by kernel_rfl
theorem info53 : Try.prog.info? 53 = some Try.t53 := by kernel_rfl
theorem ar53 : arInfo Try.prog 53 = some (2, false, 1) := by kernel_rfl
theorem sz54 : szOf Try.prog 54 = some (false, 1) := by kernel_rfl
theorem info54 : Try.prog.info? 54 = some Try.t54 := by kernel_rfl
theorem sl54 : slInfo Try.prog 54 = some (false, 1) := by kernel_rfl
theorem sz55 : szOf Try.prog 55 = some (true, 6) := by kernel_rfl
theorem info55 : Try.prog.info? 55 = some Try.t55 := by kernel_rfl
theorem fi55_0 : fieldInfo Try.prog 55 0 = some (0, false, 1) := by kernel_rfl
theorem fi55_1 : fieldInfo Try.prog 55 1 = some (1, false, 1) := by kernel_rfl
theorem fi55_2 : fieldInfo Try.prog 55 2 = some (2, false, 1) := by kernel_rfl
theorem fi55_3 : fieldInfo Try.prog 55 3 = some (3, false, 1) := by kernel_rfl
theorem fi55_4 : fieldInfo Try.prog 55 4 = some (4, false, 1) := by kernel_rfl
theorem fi55_5 : fieldInfo Try.prog 55 5 = some (5, false, 1) := by kernel_rfl
theorem sz56 : szOf Try.prog 56 = some (true, 6) := by kernel_rfl
theorem info56 : Try.prog.info? 56 = some Try.t56 := by kernel_rfl
theorem fi56_0 : fieldInfo Try.prog 56 0 = some (0, false, 1) := by kernel_rfl
theorem fi56_1 : fieldInfo Try.prog 56 1 = some (1, false, 1) := by kernel_rfl
theorem fi56_2 : fieldInfo Try.prog 56 2 = some (2, false, 1) := by kernel_rfl
theorem fi56_3 : fieldInfo Try.prog 56 3 = some (3, false, 1) := by kernel_rfl
theorem fi56_4 : fieldInfo Try.prog 56 4 = some (4, false, 1) := by kernel_rfl
theorem fi56_5 : fieldInfo Try.prog 56 5 = some (5, false, 1) := by kernel_rfl
theorem sz57 : szOf Try.prog 57 = some (false, 1) := by kernel_rfl
theorem info57 : Try.prog.info? 57 = some Try.t57 := by kernel_rfl
theorem info58 : Try.prog.info? 58 = some Try.t58 := by kernel_rfl
theorem info59 : Try.prog.info? 59 = some Try.t59 := by kernel_rfl
theorem info60 : Try.prog.info? 60 = some Try.t60 := by kernel_rfl
theorem info61 : Try.prog.info? 61 = some Try.t61 := by kernel_rfl
theorem info62 : Try.prog.info? 62 = some Try.t62 := by kernel_rfl
theorem info63 : Try.prog.info? 63 = some Try.t63 := by kernel_rfl
theorem sz64 : szOf Try.prog 64 = some (false, 1) := by kernel_rfl
theorem info64 : Try.prog.info? 64 = some Try.t64 := by kernel_rfl
theorem info65 : Try.prog.info? 65 = some Try.t65 := by kernel_rfl
theorem info66 : Try.prog.info? 66 = some Try.t66 := by kernel_rfl
theorem info67 : Try.prog.info? 67 = some Try.t67 := by kernel_rfl
theorem info68 : Try.prog.info? 68 = some Try.t68 := by kernel_rfl
theorem info69 : Try.prog.info? 69 = some Try.t69 := by kernel_rfl
theorem info70 : Try.prog.info? 70 = some Try.t70 := by kernel_rfl
theorem info71 : Try.prog.info? 71 = some Try.t71 := by kernel_rfl
theorem sz72 : szOf Try.prog 72 = some (false, 1) := by kernel_rfl
theorem info72 : Try.prog.info? 72 = some Try.t72 := by kernel_rfl
theorem sl72 : slInfo Try.prog 72 = some (true, 4) := by kernel_rfl
theorem info73 : Try.prog.info? 73 = some Try.t73 := by kernel_rfl
theorem info74 : Try.prog.info? 74 = some Try.t74 := by kernel_rfl
theorem info75 : Try.prog.info? 75 = some Try.t75 := by kernel_rfl
theorem info76 : Try.prog.info? 76 = some Try.t76 := by kernel_rfl
theorem info77 : Try.prog.info? 77 = some Try.t77 := by kernel_rfl
theorem sz78 : szOf Try.prog 78 = some (true, 5) := by kernel_rfl
theorem info78 : Try.prog.info? 78 = some Try.t78 := by kernel_rfl
theorem fi78_0 : fieldInfo Try.prog 78 0 = some (0, false, 1) := by kernel_rfl
theorem fi78_1 : fieldInfo Try.prog 78 1 = some (1, false, 1) := by kernel_rfl
theorem fi78_2 : fieldInfo Try.prog 78 2 = some (2, false, 1) := by kernel_rfl
theorem fi78_3 : fieldInfo Try.prog 78 3 = some (3, false, 1) := by kernel_rfl
theorem fi78_4 : fieldInfo Try.prog 78 4 = some (4, false, 1) := by kernel_rfl
theorem sz79 : szOf Try.prog 79 = some (true, 5) := by kernel_rfl
theorem info79 : Try.prog.info? 79 = some Try.t79 := by kernel_rfl
theorem fi79_0 : fieldInfo Try.prog 79 0 = some (0, false, 1) := by kernel_rfl
theorem fi79_1 : fieldInfo Try.prog 79 1 = some (1, false, 1) := by kernel_rfl
theorem fi79_2 : fieldInfo Try.prog 79 2 = some (2, false, 1) := by kernel_rfl
theorem fi79_3 : fieldInfo Try.prog 79 3 = some (3, false, 1) := by kernel_rfl
theorem fi79_4 : fieldInfo Try.prog 79 4 = some (4, false, 1) := by kernel_rfl
theorem info80 : Try.prog.info? 80 = some Try.t80 := by kernel_rfl
theorem info81 : Try.prog.info? 81 = some Try.t81 := by kernel_rfl
theorem sz82 : szOf Try.prog 82 = some (false, 1) := by kernel_rfl
theorem info82 : Try.prog.info? 82 = some Try.t82 := by kernel_rfl
theorem sz83 : szOf Try.prog 83 = some (true, 5) := by kernel_rfl
theorem info83 : Try.prog.info? 83 = some Try.t83 := by kernel_rfl
theorem fi83_0 : fieldInfo Try.prog 83 0 = some (0, false, 1) := by kernel_rfl
theorem fi83_1 : fieldInfo Try.prog 83 1 = some (1, false, 1) := by kernel_rfl
theorem fi83_2 : fieldInfo Try.prog 83 2 = some (2, false, 1) := by kernel_rfl
theorem fi83_3 : fieldInfo Try.prog 83 3 = some (3, false, 1) := by kernel_rfl
theorem fi83_4 : fieldInfo Try.prog 83 4 = some (4, false, 1) := by kernel_rfl
theorem sz84 : szOf Try.prog 84 = some (true, 7) := by kernel_rfl
theorem info84 : Try.prog.info? 84 = some Try.t84 := by kernel_rfl
theorem fi84_0 : fieldInfo Try.prog 84 0 = some (0, false, 1) := by kernel_rfl
theorem fi84_1 : fieldInfo Try.prog 84 1 = some (1, false, 1) := by kernel_rfl
theorem fi84_2 : fieldInfo Try.prog 84 2 = some (2, true, 5) := by kernel_rfl
theorem sz85 : szOf Try.prog 85 = some (true, 7) := by kernel_rfl
theorem info85 : Try.prog.info? 85 = some Try.t85 := by kernel_rfl
theorem fi85_0 : fieldInfo Try.prog 85 0 = some (0, false, 1) := by kernel_rfl
theorem fi85_1 : fieldInfo Try.prog 85 1 = some (1, false, 1) := by kernel_rfl
theorem fi85_2 : fieldInfo Try.prog 85 2 = some (2, true, 5) := by kernel_rfl
theorem sz86 : szOf Try.prog 86 = some (true, 4) := by kernel_rfl
theorem info86 : Try.prog.info? 86 = some Try.t86 := by kernel_rfl
theorem fi86_0 : fieldInfo Try.prog 86 0 = some (0, false, 1) := by kernel_rfl
theorem fi86_1 : fieldInfo Try.prog 86 1 = some (1, false, 1) := by kernel_rfl
theorem fi86_2 : fieldInfo Try.prog 86 2 = some (2, false, 1) := by kernel_rfl
theorem fi86_3 : fieldInfo Try.prog 86 3 = some (3, false, 1) := by kernel_rfl
theorem sz87 : szOf Try.prog 87 = some (true, 4) := by kernel_rfl
theorem info87 : Try.prog.info? 87 = some Try.t87 := by kernel_rfl
theorem fi87_0 : fieldInfo Try.prog 87 0 = some (0, false, 1) := by kernel_rfl
theorem fi87_1 : fieldInfo Try.prog 87 1 = some (1, false, 1) := by kernel_rfl
theorem fi87_2 : fieldInfo Try.prog 87 2 = some (2, false, 1) := by kernel_rfl
theorem fi87_3 : fieldInfo Try.prog 87 3 = some (3, false, 1) := by kernel_rfl
theorem info88 : Try.prog.info? 88 = some Try.t88 := by kernel_rfl
theorem info89 : Try.prog.info? 89 = some Try.t89 := by kernel_rfl
theorem info90 : Try.prog.info? 90 = some Try.t90 := by kernel_rfl
theorem info91 : Try.prog.info? 91 = some Try.t91 := by kernel_rfl
theorem sz92 : szOf Try.prog 92 = some (false, 1) := by kernel_rfl
theorem info92 : Try.prog.info? 92 = some Try.t92 := by kernel_rfl
theorem info93 : Try.prog.info? 93 = some Try.t93 := by kernel_rfl
theorem info94 : Try.prog.info? 94 = some Try.t94 := by kernel_rfl
theorem info95 : Try.prog.info? 95 = some Try.t95 := by kernel_rfl
theorem info96 : Try.prog.info? 96 = some Try.t96 := by kernel_rfl
theorem sz97 : szOf Try.prog 97 = some (true, 2) := by kernel_rfl
theorem info97 : Try.prog.info? 97 = some Try.t97 := by kernel_rfl
theorem fi97_0 : fieldInfo Try.prog 97 0 = some (0, false, 1) := by kernel_rfl
theorem fi97_1 : fieldInfo Try.prog 97 1 = some (1, false, 1) := by kernel_rfl
theorem sz98 : szOf Try.prog 98 = some (true, 2) := by kernel_rfl
theorem info98 : Try.prog.info? 98 = some Try.t98 := by kernel_rfl
theorem fi98_0 : fieldInfo Try.prog 98 0 = some (0, false, 1) := by kernel_rfl
theorem fi98_1 : fieldInfo Try.prog 98 1 = some (1, false, 1) := by kernel_rfl
theorem info99 : Try.prog.info? 99 = some Try.t99 := by kernel_rfl
theorem info100 : Try.prog.info? 100 = some Try.t100 := by kernel_rfl
theorem info101 : Try.prog.info? 101 = some Try.t101 := by kernel_rfl
theorem info102 : Try.prog.info? 102 = some Try.t102 := by kernel_rfl
theorem info103 : Try.prog.info? 103 = some Try.t103 := by kernel_rfl
theorem info104 : Try.prog.info? 104 = some Try.t104 := by kernel_rfl
theorem info105 : Try.prog.info? 105 = some Try.t105 := by kernel_rfl
theorem info106 : Try.prog.info? 106 = some Try.t106 := by kernel_rfl
theorem info107 : Try.prog.info? 107 = some Try.t107 := by kernel_rfl
theorem sz108 : szOf Try.prog 108 = some (false, 1) := by kernel_rfl
theorem info108 : Try.prog.info? 108 = some Try.t108 := by kernel_rfl
theorem sz109 : szOf Try.prog 109 = some (true, 2) := by kernel_rfl
theorem info109 : Try.prog.info? 109 = some Try.t109 := by kernel_rfl
theorem fi109_0 : fieldInfo Try.prog 109 0 = some (0, false, 1) := by kernel_rfl
theorem fi109_1 : fieldInfo Try.prog 109 1 = some (1, false, 1) := by kernel_rfl
theorem sz110 : szOf Try.prog 110 = some (true, 2) := by kernel_rfl
theorem info110 : Try.prog.info? 110 = some Try.t110 := by kernel_rfl
theorem fi110_0 : fieldInfo Try.prog 110 0 = some (0, false, 1) := by kernel_rfl
theorem fi110_1 : fieldInfo Try.prog 110 1 = some (1, false, 1) := by kernel_rfl
theorem info111 : Try.prog.info? 111 = some Try.t111 := by kernel_rfl
theorem info112 : Try.prog.info? 112 = some Try.t112 := by kernel_rfl
theorem info113 : Try.prog.info? 113 = some Try.t113 := by kernel_rfl
theorem info114 : Try.prog.info? 114 = some Try.t114 := by kernel_rfl
theorem info115 : Try.prog.info? 115 = some Try.t115 := by kernel_rfl
theorem sz116 : szOf Try.prog 116 = some (true, 7) := by kernel_rfl
theorem info116 : Try.prog.info? 116 = some Try.t116 := by kernel_rfl
theorem fi116_0 : fieldInfo Try.prog 116 0 = some (0, false, 1) := by kernel_rfl
theorem fi116_1 : fieldInfo Try.prog 116 1 = some (1, false, 1) := by kernel_rfl
theorem fi116_2 : fieldInfo Try.prog 116 2 = some (2, true, 5) := by kernel_rfl
theorem sz117 : szOf Try.prog 117 = some (true, 7) := by kernel_rfl
theorem info117 : Try.prog.info? 117 = some Try.t117 := by kernel_rfl
theorem fi117_0 : fieldInfo Try.prog 117 0 = some (0, false, 1) := by kernel_rfl
theorem fi117_1 : fieldInfo Try.prog 117 1 = some (1, false, 1) := by kernel_rfl
theorem fi117_2 : fieldInfo Try.prog 117 2 = some (2, true, 5) := by kernel_rfl
theorem info118 : Try.prog.info? 118 = some Try.t118 := by kernel_rfl
theorem info119 : Try.prog.info? 119 = some Try.t119 := by kernel_rfl
theorem info120 : Try.prog.info? 120 = some Try.t120 := by kernel_rfl
theorem info121 : Try.prog.info? 121 = some Try.t121 := by kernel_rfl
theorem info122 : Try.prog.info? 122 = some Try.t122 := by kernel_rfl
theorem info123 : Try.prog.info? 123 = some Try.t123 := by kernel_rfl
theorem info124 : Try.prog.info? 124 = some Try.t124 := by kernel_rfl
theorem sz125 : szOf Try.prog 125 = some (false, 1) := by kernel_rfl
theorem info125 : Try.prog.info? 125 = some Try.t125 := by kernel_rfl
theorem info126 : Try.prog.info? 126 = some Try.t126 := by kernel_rfl
theorem sz127 : szOf Try.prog 127 = some (true, 4) := by kernel_rfl
theorem info127 : Try.prog.info? 127 = some Try.t127 := by kernel_rfl
theorem fi127_0 : fieldInfo Try.prog 127 0 = some (0, false, 1) := by kernel_rfl
theorem fi127_1 : fieldInfo Try.prog 127 1 = some (1, false, 1) := by kernel_rfl
theorem fi127_2 : fieldInfo Try.prog 127 2 = some (2, false, 1) := by kernel_rfl
theorem fi127_3 : fieldInfo Try.prog 127 3 = some (3, false, 1) := by kernel_rfl
theorem sz128 : szOf Try.prog 128 = some (true, 4) := by kernel_rfl
theorem info128 : Try.prog.info? 128 = some Try.t128 := by kernel_rfl
theorem fi128_0 : fieldInfo Try.prog 128 0 = some (0, false, 1) := by kernel_rfl
theorem fi128_1 : fieldInfo Try.prog 128 1 = some (1, false, 1) := by kernel_rfl
theorem fi128_2 : fieldInfo Try.prog 128 2 = some (2, false, 1) := by kernel_rfl
theorem fi128_3 : fieldInfo Try.prog 128 3 = some (3, false, 1) := by kernel_rfl
theorem sz129 : szOf Try.prog 129 = some (true, 0) := by kernel_rfl
theorem info129 : Try.prog.info? 129 = some Try.t129 := by kernel_rfl
theorem ar129 : arInfo Try.prog 129 = some (0, false, 1) := by kernel_rfl
theorem sz130 : szOf Try.prog 130 = some (true, 0) := by kernel_rfl
theorem info130 : Try.prog.info? 130 = some Try.t130 := by kernel_rfl
theorem fi130_0 : fieldInfo Try.prog 130 0 = some (0, true, 0) := by kernel_rfl
theorem sz131 : szOf Try.prog 131 = some (true, 0) := by kernel_rfl
theorem info131 : Try.prog.info? 131 = some Try.t131 := by kernel_rfl
theorem fi131_0 : fieldInfo Try.prog 131 0 = some (0, true, 0) := by kernel_rfl
theorem sz132 : szOf Try.prog 132 = some (false, 1) := by kernel_rfl
theorem info132 : Try.prog.info? 132 = some Try.t132 := by kernel_rfl
theorem sz133 : szOf Try.prog 133 = some (false, 1) := by kernel_rfl
theorem info133 : Try.prog.info? 133 = some Try.t133 := by kernel_rfl
theorem info134 : Try.prog.info? 134 = some Try.t134 := by kernel_rfl
theorem sz135 : szOf Try.prog 135 = some (false, 1) := by kernel_rfl
theorem info135 : Try.prog.info? 135 = some Try.t135 := by kernel_rfl
theorem sz136 : szOf Try.prog 136 = some (false, 1) := by kernel_rfl
theorem info136 : Try.prog.info? 136 = some Try.t136 := by kernel_rfl
theorem sz137 : szOf Try.prog 137 = some (false, 1) := by kernel_rfl
theorem info137 : Try.prog.info? 137 = some Try.t137 := by kernel_rfl
theorem sz138 : szOf Try.prog 138 = some (true, 11) := by kernel_rfl
theorem info138 : Try.prog.info? 138 = some Try.t138 := by kernel_rfl
theorem fi138_0 : fieldInfo Try.prog 138 0 = some (0, false, 1) := by kernel_rfl
theorem fi138_1 : fieldInfo Try.prog 138 1 = some (1, false, 1) := by kernel_rfl
theorem fi138_2 : fieldInfo Try.prog 138 2 = some (2, false, 1) := by kernel_rfl
theorem fi138_3 : fieldInfo Try.prog 138 3 = some (3, false, 1) := by kernel_rfl
theorem fi138_4 : fieldInfo Try.prog 138 4 = some (4, false, 1) := by kernel_rfl
theorem fi138_5 : fieldInfo Try.prog 138 5 = some (5, false, 1) := by kernel_rfl
theorem fi138_6 : fieldInfo Try.prog 138 6 = some (6, false, 1) := by kernel_rfl
theorem fi138_7 : fieldInfo Try.prog 138 7 = some (7, false, 1) := by kernel_rfl
theorem fi138_8 : fieldInfo Try.prog 138 8 = some (8, false, 1) := by kernel_rfl
theorem fi138_9 : fieldInfo Try.prog 138 9 = some (9, false, 1) := by kernel_rfl
theorem fi138_10 : fieldInfo Try.prog 138 10 = some (10, false, 1) := by kernel_rfl
theorem sz139 : szOf Try.prog 139 = some (true, 11) := by kernel_rfl
theorem info139 : Try.prog.info? 139 = some Try.t139 := by kernel_rfl
theorem fi139_0 : fieldInfo Try.prog 139 0 = some (0, false, 1) := by kernel_rfl
theorem fi139_1 : fieldInfo Try.prog 139 1 = some (1, false, 1) := by kernel_rfl
theorem fi139_2 : fieldInfo Try.prog 139 2 = some (2, false, 1) := by kernel_rfl
theorem fi139_3 : fieldInfo Try.prog 139 3 = some (3, false, 1) := by kernel_rfl
theorem fi139_4 : fieldInfo Try.prog 139 4 = some (4, false, 1) := by kernel_rfl
theorem fi139_5 : fieldInfo Try.prog 139 5 = some (5, false, 1) := by kernel_rfl
theorem fi139_6 : fieldInfo Try.prog 139 6 = some (6, false, 1) := by kernel_rfl
theorem fi139_7 : fieldInfo Try.prog 139 7 = some (7, false, 1) := by kernel_rfl
theorem fi139_8 : fieldInfo Try.prog 139 8 = some (8, false, 1) := by kernel_rfl
theorem fi139_9 : fieldInfo Try.prog 139 9 = some (9, false, 1) := by kernel_rfl
theorem fi139_10 : fieldInfo Try.prog 139 10 = some (10, false, 1) := by kernel_rfl
theorem sz140 : szOf Try.prog 140 = some (true, 1) := by kernel_rfl
theorem info140 : Try.prog.info? 140 = some Try.t140 := by kernel_rfl
theorem fi140_0 : fieldInfo Try.prog 140 0 = some (0, false, 1) := by kernel_rfl
theorem sz141 : szOf Try.prog 141 = some (true, 1) := by kernel_rfl
theorem info141 : Try.prog.info? 141 = some Try.t141 := by kernel_rfl
theorem fi141_0 : fieldInfo Try.prog 141 0 = some (0, false, 1) := by kernel_rfl
theorem info142 : Try.prog.info? 142 = some Try.t142 := by kernel_rfl
end Go.Proofs.Ytlkemphhbamcfaa
