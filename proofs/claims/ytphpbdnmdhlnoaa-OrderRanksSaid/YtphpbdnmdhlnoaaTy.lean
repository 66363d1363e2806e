/-
  What the laws of text Eng2 ask of the types: each fact off the program.
-/
import Derived.Test.YtphpbdnmdhlnoaaRows
import Derived.Test.YtphpbdnmdhlnoaaEng2
namespace Go.Proofs.Ytphpbdnmdhlnoaa
theorem mixed : Try.prog.follows .mixedOrders = true := by kernel_rfl
theorem info0 : Try.prog.info? 0 = some Try.t0 := by kernel_rfl
theorem info1 : Try.prog.info? 1 = some Try.t1 := by kernel_rfl
theorem sz2 : szOf Try.prog 2 = some (false, 1) := by kernel_rfl
theorem info2 : Try.prog.info? 2 = some Try.t2 := by kernel_rfl
theorem sz3 : szOf Try.prog 3 = some (false, 1) := by kernel_rfl
theorem info3 : Try.prog.info? 3 = some Try.t3 := by kernel_rfl
theorem sz4 : szOf Try.prog 4 = some (false, 1) := by kernel_rfl
theorem info4 : Try.prog.info? 4 = some Try.t4 := by kernel_rfl
theorem sz5 : szOf Try.prog 5 = some (false, 1) := by kernel_rfl
theorem info5 : Try.prog.info? 5 = some Try.t5 := by kernel_rfl
theorem sz6 : szOf Try.prog 6 = some (false, 1) := by kernel_rfl
theorem info6 : Try.prog.info? 6 = some Try.t6 := by kernel_rfl
theorem sz7 : szOf Try.prog 7 = some (true, 4) := by kernel_rfl
theorem info7 : Try.prog.info? 7 = some Try.t7 := by kernel_rfl
theorem fi7_0 : fieldInfo Try.prog 7 0 = some (0, false, 1) := by kernel_rfl
theorem fi7_1 : fieldInfo Try.prog 7 1 = some (1, false, 1) := by kernel_rfl
theorem fi7_2 : fieldInfo Try.prog 7 2 = some (2, false, 1) := by kernel_rfl
theorem fi7_3 : fieldInfo Try.prog 7 3 = some (3, false, 1) := by kernel_rfl
theorem sz8 : szOf Try.prog 8 = some (true, 4) := by kernel_rfl
theorem info8 : Try.prog.info? 8 = some Try.t8 := by kernel_rfl
theorem fi8_0 : fieldInfo Try.prog 8 0 = some (0, false, 1) := by kernel_rfl
theorem fi8_1 : fieldInfo Try.prog 8 1 = some (1, false, 1) := by kernel_rfl
theorem fi8_2 : fieldInfo Try.prog 8 2 = some (2, false, 1) := by kernel_rfl
theorem fi8_3 : fieldInfo Try.prog 8 3 = some (3, false, 1) := by kernel_rfl
theorem sz9 : szOf Try.prog 9 = some (false, 1) := by kernel_rfl
theorem info9 : Try.prog.info? 9 = some Try.t9 := by kernel_rfl
theorem sz10 : szOf Try.prog 10 = some (false, 1) := by kernel_rfl
theorem info10 : Try.prog.info? 10 = some Try.t10 := by kernel_rfl
theorem sz11 : szOf Try.prog 11 = some (false, 1) := by kernel_rfl
theorem info11 : Try.prog.info? 11 = some Try.t11 := by kernel_rfl
theorem sz12 : szOf Try.prog 12 = some (false, 1) := by kernel_rfl
theorem info12 : Try.prog.info? 12 = some Try.t12 := by kernel_rfl
theorem sz13 : szOf Try.prog 13 = some (true, 2) := by kernel_rfl
theorem info13 : Try.prog.info? 13 = some Try.t13 := by kernel_rfl
theorem fi13_0 : fieldInfo Try.prog 13 0 = some (0, false, 1) := by kernel_rfl
theorem fi13_1 : fieldInfo Try.prog 13 1 = some (1, false, 1) := by kernel_rfl
theorem sz14 : szOf Try.prog 14 = some (true, 2) := by kernel_rfl
theorem info14 : Try.prog.info? 14 = some Try.t14 := by kernel_rfl
theorem fi14_0 : fieldInfo Try.prog 14 0 = some (0, false, 1) := by kernel_rfl
theorem fi14_1 : fieldInfo Try.prog 14 1 = some (1, false, 1) := by kernel_rfl
theorem sz15 : szOf Try.prog 15 = some (false, 1) := by kernel_rfl
theorem info15 : Try.prog.info? 15 = some Try.t15 := by kernel_rfl
theorem sz16 : szOf Try.prog 16 = some (false, 1) := by kernel_rfl
theorem info16 : Try.prog.info? 16 = some Try.t16 := by kernel_rfl
theorem sz17 : szOf Try.prog 17 = some (false, 1) := by kernel_rfl
theorem info17 : Try.prog.info? 17 = some Try.t17 := by kernel_rfl
theorem sz18 : szOf Try.prog 18 = some (true, 1) := by kernel_rfl
theorem info18 : Try.prog.info? 18 = some Try.t18 := by kernel_rfl
theorem fi18_0 : fieldInfo Try.prog 18 0 = some (0, false, 1) := by kernel_rfl
theorem sz19 : szOf Try.prog 19 = some (true, 1) := by kernel_rfl
theorem info19 : Try.prog.info? 19 = some Try.t19 := by kernel_rfl
theorem fi19_0 : fieldInfo Try.prog 19 0 = some (0, false, 1) := by kernel_rfl
theorem info20 : Try.prog.info? 20 = some Try.t20 := by kernel_rfl
theorem sz21 : szOf Try.prog 21 = some (false, 1) := by kernel_rfl
theorem info21 : Try.prog.info? 21 = some Try.t21 := by kernel_rfl
theorem sz22 : szOf Try.prog 22 = some (false, 1) := by kernel_rfl
theorem info22 : Try.prog.info? 22 = some Try.t22 := by kernel_rfl
theorem sl22 : slInfo Try.prog 22 = some (false, 1) := by kernel_rfl
theorem info23 : Try.prog.info? 23 = some Try.t23 := by kernel_rfl
theorem sz24 : szOf Try.prog 24 = some (false, 1) := by kernel_rfl
theorem info24 : Try.prog.info? 24 = some Try.t24 := by kernel_rfl
theorem info25 : Try.prog.info? 25 = some Try.t25 := by kernel_rfl
theorem info26 : Try.prog.info? 26 = some Try.t26 := by kernel_rfl
theorem info27 : Try.prog.info? 27 = some Try.t27 := by kernel_rfl
theorem info28 : Try.prog.info? 28 = some Try.t28 := by kernel_rfl
theorem info29 : Try.prog.info? 29 = some Try.t29 := by kernel_rfl
theorem info30 : Try.prog.info? 30 = some Try.t30 := by kernel_rfl
theorem info31 : Try.prog.info? 31 = some Try.t31 := by kernel_rfl
theorem info32 : Try.prog.info? 32 = some Try.t32 := by kernel_rfl
theorem info33 : Try.prog.info? 33 = some Try.t33 := by kernel_rfl
theorem info34 : Try.prog.info? 34 = some Try.t34 := by kernel_rfl
theorem info35 : Try.prog.info? 35 = some Try.t35 := by kernel_rfl
theorem info36 : Try.prog.info? 36 = some Try.t36 := by kernel_rfl
theorem info37 : Try.prog.info? 37 = some Try.t37 := by kernel_rfl
theorem info38 : Try.prog.info? 38 = some Try.t38 := by kernel_rfl
theorem info39 : Try.prog.info? 39 = some Try.t39 := by kernel_rfl
theorem info40 : Try.prog.info? 40 = some Try.t40 := by kernel_rfl
theorem info41 : Try.prog.info? 41 = some Try.t41 := by kernel_rfl
theorem info42 : Try.prog.info? 42 = some Try.t42 := by kernel_rfl
theorem info43 : Try.prog.info? 43 = some Try.t43 := by kernel_rfl
theorem info44 : Try.prog.info? 44 = some Try.t44 := by kernel_rfl
theorem sz45 : szOf Try.prog 45 = some (false, 1) := by kernel_rfl
theorem info45 : Try.prog.info? 45 = some Try.t45 := by kernel_rfl
theorem sl45 : slInfo Try.prog 45 = some (false, 1) := by kernel_rfl
theorem info46 : Try.prog.info? 46 = some Try.t46 := by kernel_rfl
theorem sz47 : szOf Try.prog 47 = some (true, 20) := by kernel_rfl
theorem info47 : Try.prog.info? 47 = some Try.t47 := by kernel_rfl
theorem ar47 : arInfo Try.prog 47 = some (20, false, 1) := by kernel_rfl
theorem info48 : Try.prog.info? 48 = some Try.t48 := by kernel_rfl
theorem sz49 : szOf Try.prog 49 = some (false, 1) := by kernel_rfl
theorem info49 : Try.prog.info? 49 = some Try.t49 := by kernel_rfl
theorem sz50 : szOf Try.prog 50 = some (true, 2) := by kernel_rfl
theorem info50 : Try.prog.info? 50 = some Try.t50 := by kernel_rfl
theorem fi50_0 : fieldInfo Try.prog 50 0 = some (0, false, 1) := by kernel_rfl
theorem fi50_1 : fieldInfo Try.prog 50 1 = some (1, false, 1) := by kernel_rfl
theorem sz51 : szOf Try.prog 51 = some (true, 2) := by kernel_rfl
theorem info51 : Try.prog.info? 51 = some Try.t51 := by kernel_rfl
theorem fi51_0 : fieldInfo Try.prog 51 0 = some (0, false, 1) := by kernel_rfl
theorem fi51_1 : fieldInfo Try.prog 51 1 = some (1, false, 1) := by kernel_rfl
theorem info52 : Try.prog.info? 52 = some Try.t52 := by kernel_rfl
theorem info53 : Try.prog.info? 53 = some Try.t53 := by kernel_rfl
theorem info54 : Try.prog.info? 54 = some Try.t54 := by kernel_rfl
theorem info55 : Try.prog.info? 55 = some Try.t55 := by kernel_rfl
theorem sz56 : szOf Try.prog 56 = some (true, 9) := by kernel_rfl
theorem info56 : Try.prog.info? 56 = some Try.t56 := by kernel_rfl
theorem ar56 : arInfo Try.prog 56 = some (9, false, 1) := by kernel_rfl
theorem sz57 : szOf Try.prog 57 = some (true, 9) := by kernel_rfl
theorem info57 : Try.prog.info? 57 = some Try.t57 := by kernel_rfl
theorem ar57 : arInfo Try.prog 57 = some (9, false, 1) := by kernel_rfl
theorem sz58 : szOf Try.prog 58 = some (true, 10) := by kernel_rfl
theorem info58 : Try.prog.info? 58 = some Try.t58 := by kernel_rfl
theorem fi58_0 : fieldInfo Try.prog 58 0 = some (0, false, 1) := by kernel_rfl
theorem fi58_1 : fieldInfo Try.prog 58 1 = some (1, true, 9) := by kernel_rfl
theorem sz59 : szOf Try.prog 59 = some (true, 10) := by kernel_rfl
theorem info59 : Try.prog.info? 59 = some Try.t59 := by kernel_rfl
theorem fi59_0 : fieldInfo Try.prog 59 0 = some (0, false, 1) := by kernel_rfl
theorem fi59_1 : fieldInfo Try.prog 59 1 = some (1, true, 9) := by kernel_rfl
theorem info60 : Try.prog.info? 60 = some Try.t60 := by kernel_rfl
theorem info61 : Try.prog.info? 61 = some Try.t61 := by kernel_rfl
theorem info62 : Try.prog.info? 62 = some Try.t62 := by kernel_rfl
theorem info63 : Try.prog.info? 63 = some Try.t63 := by kernel_rfl
theorem info64 : Try.prog.info? 64 = some Try.t64 := by kernel_rfl
theorem info65 : Try.prog.info? 65 = some Try.t65 := by kernel_rfl
theorem info66 : Try.prog.info? 66 = some Try.t66 := by kernel_rfl
theorem info67 : Try.prog.info? 67 = some Try.t67 := by kernel_rfl
theorem sz68 : szOf Try.prog 68 = some (false, 1) := by kernel_rfl
theorem info68 : Try.prog.info? 68 = some Try.t68 := by kernel_rfl
theorem info69 : Try.prog.info? 69 = some Try.t69 := by kernel_rfl
theorem info70 : Try.prog.info? 70 = some Try.t70 := by kernel_rfl
theorem sz71 : szOf Try.prog 71 = some (true, 4) := by kernel_rfl
theorem info71 : Try.prog.info? 71 = some Try.t71 := by kernel_rfl
theorem fi71_0 : fieldInfo Try.prog 71 0 = some (0, false, 1) := by kernel_rfl
theorem fi71_1 : fieldInfo Try.prog 71 1 = some (1, false, 1) := by kernel_rfl
theorem fi71_2 : fieldInfo Try.prog 71 2 = some (2, false, 1) := by kernel_rfl
theorem fi71_3 : fieldInfo Try.prog 71 3 = some (3, false, 1) := by kernel_rfl
theorem sz72 : szOf Try.prog 72 = some (true, 4) := by kernel_rfl
theorem info72 : Try.prog.info? 72 = some Try.t72 := by kernel_rfl
theorem fi72_0 : fieldInfo Try.prog 72 0 = some (0, false, 1) := by kernel_rfl
theorem fi72_1 : fieldInfo Try.prog 72 1 = some (1, false, 1) := by kernel_rfl
theorem fi72_2 : fieldInfo Try.prog 72 2 = some (2, false, 1) := by kernel_rfl
theorem fi72_3 : fieldInfo Try.prog 72 3 = some (3, false, 1) := by kernel_rfl
theorem sz73 : szOf Try.prog 73 = some (true, 0) := by kernel_rfl
theorem info73 : Try.prog.info? 73 = some Try.t73 := by kernel_rfl
theorem ar73 : arInfo Try.prog 73 = some (0, false, 1) := by kernel_rfl
theorem sz74 : szOf Try.prog 74 = some (true, 0) := by kernel_rfl
theorem info74 : Try.prog.info? 74 = some Try.t74 := by kernel_rfl
theorem fi74_0 : fieldInfo Try.prog 74 0 = some (0, true, 0) := by kernel_rfl
theorem sz75 : szOf Try.prog 75 = some (true, 0) := by kernel_rfl
theorem info75 : Try.prog.info? 75 = some Try.t75 := by kernel_rfl
theorem fi75_0 : fieldInfo Try.prog 75 0 = some (0, true, 0) := by kernel_rfl
theorem info76 : Try.prog.info? 76 = some Try.t76 := by kernel_rfl
theorem sz77 : szOf Try.prog 77 = some (false, 1) := by kernel_rfl
theorem info77 : Try.prog.info? 77 = some Try.t77 := by kernel_rfl
theorem sz78 : szOf Try.prog 78 = some (false, 1) := by kernel_rfl
theorem info78 : Try.prog.info? 78 = some Try.t78 := by kernel_rfl
theorem sz79 : szOf Try.prog 79 = some (false, 1) := by kernel_rfl
theorem info79 : Try.prog.info? 79 = some Try.t79 := by kernel_rfl
theorem info80 : Try.prog.info? 80 = some Try.t80 := by kernel_rfl
theorem sz81 : szOf Try.prog 81 = some (false, 1) := by kernel_rfl
theorem info81 : Try.prog.info? 81 = some Try.t81 := by kernel_rfl
theorem sz82 : szOf Try.prog 82 = some (false, 1) := by kernel_rfl
theorem info82 : Try.prog.info? 82 = some Try.t82 := by kernel_rfl
theorem sz83 : szOf Try.prog 83 = some (false, 1) := by kernel_rfl
theorem info83 : Try.prog.info? 83 = some Try.t83 := by kernel_rfl
theorem sz84 : szOf Try.prog 84 = some (true, 11) := by kernel_rfl
theorem info84 : Try.prog.info? 84 = some Try.t84 := by kernel_rfl
theorem fi84_0 : fieldInfo Try.prog 84 0 = some (0, false, 1) := by kernel_rfl
theorem fi84_1 : fieldInfo Try.prog 84 1 = some (1, false, 1) := by kernel_rfl
theorem fi84_2 : fieldInfo Try.prog 84 2 = some (2, false, 1) := by kernel_rfl
theorem fi84_3 : fieldInfo Try.prog 84 3 = some (3, false, 1) := by kernel_rfl
theorem fi84_4 : fieldInfo Try.prog 84 4 = some (4, false, 1) := by kernel_rfl
theorem fi84_5 : fieldInfo Try.prog 84 5 = some (5, false, 1) := by kernel_rfl
theorem fi84_6 : fieldInfo Try.prog 84 6 = some (6, false, 1) := by kernel_rfl
theorem fi84_7 : fieldInfo Try.prog 84 7 = some (7, false, 1) := by kernel_rfl
theorem fi84_8 : fieldInfo Try.prog 84 8 = some (8, false, 1) := by kernel_rfl
theorem fi84_9 : fieldInfo Try.prog 84 9 = some (9, false, 1) := by kernel_rfl
theorem fi84_10 : fieldInfo Try.prog 84 10 = some (10, false, 1) := by kernel_rfl
theorem sz85 : szOf Try.prog 85 = some (true, 11) := by kernel_rfl
theorem info85 : Try.prog.info? 85 = some Try.t85 := by kernel_rfl
theorem fi85_0 : fieldInfo Try.prog 85 0 = some (0, false, 1) := by kernel_rfl
theorem fi85_1 : fieldInfo Try.prog 85 1 = some (1, false, 1) := by kernel_rfl
theorem fi85_2 : fieldInfo Try.prog 85 2 = some (2, false, 1) := by kernel_rfl
theorem fi85_3 : fieldInfo Try.prog 85 3 = some (3, false, 1) := by kernel_rfl
theorem fi85_4 : fieldInfo Try.prog 85 4 = some (4, false, 1) := by kernel_rfl
theorem fi85_5 : fieldInfo Try.prog 85 5 = some (5, false, 1) := by kernel_rfl
theorem fi85_6 : fieldInfo Try.prog 85 6 = some (6, false, 1) := by kernel_rfl
theorem fi85_7 : fieldInfo Try.prog 85 7 = some (7, false, 1) := by kernel_rfl
theorem fi85_8 : fieldInfo Try.prog 85 8 = some (8, false, 1) := by kernel_rfl
theorem fi85_9 : fieldInfo Try.prog 85 9 = some (9, false, 1) := by kernel_rfl
theorem fi85_10 : fieldInfo Try.prog 85 10 = some (10, false, 1) := by kernel_rfl
theorem info86 : Try.prog.info? 86 = some Try.t86 := by kernel_rfl
end Go.Proofs.Ytphpbdnmdhlnoaa
