/- A part of the proof: KAll. -/
import Derived.Test.YtlbfndapmlmcfaaGreatDoorAxD
import Derived.Test.YtlbfndapmlmcfaaGreatDoorCInfer
import Derived.Laws.Externs
import Derived.Test.YtlbfndapmlmcfaaGreatDoorChecked
namespace Go.Proofs.YtlbfndapmlmcfaaGreatDoor
open Go.AX
set_option maxRecDepth 100000
theorem k2 : FnOk Tryz.prog 2 c2 := fnOk_of Tryz.func2 (by kernel_rfl) (show compFn Tryz.prog m2 2 = .ok c2 by kernel_rfl)
theorem k3 : FnOk Tryz.prog 3 c3 := fnOk_of Tryz.func3 (by kernel_rfl) (show compFn Tryz.prog m3 3 = .ok c3 by kernel_rfl)
theorem k4 : FnOk Tryz.prog 4 c4 := fnOk_of Tryz.func4 (by kernel_rfl) (show compFn Tryz.prog m4 4 = .ok c4 by kernel_rfl)
theorem k5 : FnOk Tryz.prog 5 c5 := fnOk_of Tryz.func5 (by kernel_rfl) (show compFn Tryz.prog m5 5 = .ok c5 by kernel_rfl)
theorem k6 : FnOk Tryz.prog 6 c6 := fnOk_of Tryz.func6 (by kernel_rfl) (show compFn Tryz.prog m6 6 = .ok c6 by kernel_rfl)
theorem k7 : FnOk Tryz.prog 7 c7 := fnOk_of Tryz.func7 (by kernel_rfl) (show compFn Tryz.prog m7 7 = .ok c7 by kernel_rfl)
theorem k8 : FnOk Tryz.prog 8 c8 := fnOk_of Tryz.func8 (by kernel_rfl) (show compFn Tryz.prog m8 8 = .ok c8 by kernel_rfl)
theorem k9 : FnOk Tryz.prog 9 c9 := fnOk_of Tryz.func9 (by kernel_rfl) (show compFn Tryz.prog m9 9 = .ok c9 by kernel_rfl)
theorem k10 : FnOk Tryz.prog 10 c10 := fnOk_of Tryz.func10 (by kernel_rfl) (show compFn Tryz.prog m10 10 = .ok c10 by kernel_rfl)
theorem k11 : FnOk Tryz.prog 11 c11 := fnOk_of Tryz.func11 (by kernel_rfl) (show compFn Tryz.prog m11 11 = .ok c11 by kernel_rfl)
theorem k12 : FnOk Tryz.prog 12 c12 := fnOk_of Tryz.func12 (by kernel_rfl) (show compFn Tryz.prog m12 12 = .ok c12 by kernel_rfl)
theorem k13 : FnOk Tryz.prog 13 c13 := fnOk_of Tryz.func13 (by kernel_rfl) (show compFn Tryz.prog m13 13 = .ok c13 by kernel_rfl)
theorem k14 : FnOk Tryz.prog 14 c14 := fnOk_of Tryz.func14 (by kernel_rfl) (show compFn Tryz.prog m14 14 = .ok c14 by kernel_rfl)
theorem k15 : FnOk Tryz.prog 15 c15 := fnOk_of Tryz.func15 (by kernel_rfl) (show compFn Tryz.prog m15 15 = .ok c15 by kernel_rfl)
theorem k16 : FnOk Tryz.prog 16 c16 := fnOk_of Tryz.func16 (by kernel_rfl) (show compFn Tryz.prog m16 16 = .ok c16 by kernel_rfl)
theorem k17 : FnOk Tryz.prog 17 c17 := fnOk_of Tryz.func17 (by kernel_rfl) (show compFn Tryz.prog m17 17 = .ok c17 by kernel_rfl)
theorem k18 : FnOk Tryz.prog 18 c18 := fnOk_of Tryz.func18 (by kernel_rfl) (show compFn Tryz.prog m18 18 = .ok c18 by kernel_rfl)
theorem k19 : FnOk Tryz.prog 19 c19 := fnOk_of Tryz.func19 (by kernel_rfl) (show compFn Tryz.prog m19 19 = .ok c19 by kernel_rfl)
theorem k20 : FnOk Tryz.prog 20 c20 := fnOk_of Tryz.func20 (by kernel_rfl) (show compFn Tryz.prog m20 20 = .ok c20 by kernel_rfl)
theorem k21 : FnOk Tryz.prog 21 c21 := fnOk_of Tryz.func21 (by kernel_rfl) (show compFn Tryz.prog m21 21 = .ok c21 by kernel_rfl)
theorem k22 : FnOk Tryz.prog 22 c22 := fnOk_of Tryz.func22 (by kernel_rfl) (show compFn Tryz.prog m22 22 = .ok c22 by kernel_rfl)
theorem k23 : FnOk Tryz.prog 23 c23 := fnOk_of Tryz.func23 (by kernel_rfl) (show compFn Tryz.prog m23 23 = .ok c23 by kernel_rfl)
theorem k24 : FnOk Tryz.prog 24 c24 := fnOk_of Tryz.func24 (by kernel_rfl) (show compFn Tryz.prog m24 24 = .ok c24 by kernel_rfl)
theorem k25 : FnOk Tryz.prog 25 c25 := fnOk_of Tryz.func25 (by kernel_rfl) (show compFn Tryz.prog m25 25 = .ok c25 by kernel_rfl)
theorem k26 : FnOk Tryz.prog 26 c26 := fnOk_of Tryz.func26 (by kernel_rfl) (show compFn Tryz.prog m26 26 = .ok c26 by kernel_rfl)
theorem k27 : FnOk Tryz.prog 27 c27 := fnOk_of Tryz.func27 (by kernel_rfl) (show compFn Tryz.prog m27 27 = .ok c27 by kernel_rfl)
theorem k28 : FnOk Tryz.prog 28 c28 := fnOk_of Tryz.func28 (by kernel_rfl) (show compFn Tryz.prog m28 28 = .ok c28 by kernel_rfl)
theorem k29 : FnOk Tryz.prog 29 c29 := fnOk_of Tryz.func29 (by kernel_rfl) (show compFn Tryz.prog m29 29 = .ok c29 by kernel_rfl)
theorem k30 : FnOk Tryz.prog 30 c30 := fnOk_of Tryz.func30 (by kernel_rfl) (show compFn Tryz.prog m30 30 = .ok c30 by kernel_rfl)
theorem k31 : FnOk Tryz.prog 31 c31 := fnOk_of Tryz.func31 (by kernel_rfl) (show compFn Tryz.prog m31 31 = .ok c31 by kernel_rfl)
theorem k32 : FnOk Tryz.prog 32 c32 := fnOk_of Tryz.func32 (by kernel_rfl) (show compFn Tryz.prog m32 32 = .ok c32 by kernel_rfl)
theorem k33 : FnOk Tryz.prog 33 c33 := fnOk_of Tryz.func33 (by kernel_rfl) (show compFn Tryz.prog m33 33 = .ok c33 by kernel_rfl)
theorem k34 : FnOk Tryz.prog 34 c34 := fnOk_of Tryz.func34 (by kernel_rfl) (show compFn Tryz.prog m34 34 = .ok c34 by kernel_rfl)
theorem k35 : FnOk Tryz.prog 35 c35 := fnOk_of Tryz.func35 (by kernel_rfl) (show compFn Tryz.prog m35 35 = .ok c35 by kernel_rfl)
theorem k36 : FnOk Tryz.prog 36 c36 := fnOk_of Tryz.func36 (by kernel_rfl) (show compFn Tryz.prog m36 36 = .ok c36 by kernel_rfl)
theorem k37 : FnOk Tryz.prog 37 c37 := fnOk_of Tryz.func37 (by kernel_rfl) (show compFn Tryz.prog m37 37 = .ok c37 by kernel_rfl)
theorem k38 : FnOk Tryz.prog 38 c38 := fnOk_of Tryz.func38 (by kernel_rfl) (show compFn Tryz.prog m38 38 = .ok c38 by kernel_rfl)
theorem k39 : FnOk Tryz.prog 39 c39 := fnOk_of Tryz.func39 (by kernel_rfl) (show compFn Tryz.prog m39 39 = .ok c39 by kernel_rfl)
theorem k40 : FnOk Tryz.prog 40 c40 := fnOk_of Tryz.func40 (by kernel_rfl) (show compFn Tryz.prog m40 40 = .ok c40 by kernel_rfl)
theorem k41 : FnOk Tryz.prog 41 c41 := fnOk_of Tryz.func41 (by kernel_rfl) (show compFn Tryz.prog m41 41 = .ok c41 by kernel_rfl)
theorem k42 : FnOk Tryz.prog 42 c42 := fnOk_of Tryz.func42 (by kernel_rfl) (show compFn Tryz.prog m42 42 = .ok c42 by kernel_rfl)
theorem k43 : FnOk Tryz.prog 43 c43 := fnOk_of Tryz.func43 (by kernel_rfl) (show compFn Tryz.prog m43 43 = .ok c43 by kernel_rfl)
theorem k44 : FnOk Tryz.prog 44 c44 := fnOk_of Tryz.func44 (by kernel_rfl) (show compFn Tryz.prog m44 44 = .ok c44 by kernel_rfl)
theorem k45 : FnOk Tryz.prog 45 c45 := fnOk_of Tryz.func45 (by kernel_rfl) (show compFn Tryz.prog m45 45 = .ok c45 by kernel_rfl)
theorem k46 : FnOk Tryz.prog 46 c46 := fnOk_of Tryz.func46 (by kernel_rfl) (show compFn Tryz.prog m46 46 = .ok c46 by kernel_rfl)
theorem k48 : FnOk Tryz.prog 48 c48 := fnOk_of Tryz.func48 (by kernel_rfl) (show compFn Tryz.prog m48 48 = .ok c48 by kernel_rfl)
theorem k49 : FnOk Tryz.prog 49 c49 := fnOk_of Tryz.func49 (by kernel_rfl) (show compFn Tryz.prog m49 49 = .ok c49 by kernel_rfl)
theorem k50 : FnOk Tryz.prog 50 c50 := fnOk_of Tryz.func50 (by kernel_rfl) (show compFn Tryz.prog m50 50 = .ok c50 by kernel_rfl)
theorem k51 : FnOk Tryz.prog 51 c51 := fnOk_of Tryz.func51 (by kernel_rfl) (show compFn Tryz.prog m51 51 = .ok c51 by kernel_rfl)
theorem k52 : FnOk Tryz.prog 52 c52 := fnOk_of Tryz.func52 (by kernel_rfl) (show compFn Tryz.prog m52 52 = .ok c52 by kernel_rfl)
theorem k53 : FnOk Tryz.prog 53 c53 := fnOk_of Tryz.func53 (by kernel_rfl) (show compFn Tryz.prog m53 53 = .ok c53 by kernel_rfl)
theorem k54 : FnOk Tryz.prog 54 c54 := fnOk_of Tryz.func54 (by kernel_rfl) (show compFn Tryz.prog m54 54 = .ok c54 by kernel_rfl)
theorem k55 : FnOk Tryz.prog 55 c55 := fnOk_of Tryz.func55 (by kernel_rfl) (show compFn Tryz.prog m55 55 = .ok c55 by kernel_rfl)
theorem k56 : FnOk Tryz.prog 56 c56 := fnOk_of Tryz.func56 (by kernel_rfl) (show compFn Tryz.prog m56 56 = .ok c56 by kernel_rfl)
theorem k57 : FnOk Tryz.prog 57 c57 := fnOk_of Tryz.func57 (by kernel_rfl) (show compFn Tryz.prog m57 57 = .ok c57 by kernel_rfl)
theorem k58 : FnOk Tryz.prog 58 c58 := fnOk_of Tryz.func58 (by kernel_rfl) (show compFn Tryz.prog m58 58 = .ok c58 by kernel_rfl)
theorem k59 : FnOk Tryz.prog 59 c59 := fnOk_of Tryz.func59 (by kernel_rfl) (show compFn Tryz.prog m59 59 = .ok c59 by kernel_rfl)
theorem k60 : FnOk Tryz.prog 60 c60 := fnOk_of Tryz.func60 (by kernel_rfl) (show compFn Tryz.prog m60 60 = .ok c60 by kernel_rfl)
theorem k61 : FnOk Tryz.prog 61 c61 := fnOk_of Tryz.func61 (by kernel_rfl) (show compFn Tryz.prog m61 61 = .ok c61 by kernel_rfl)
theorem k62 : FnOk Tryz.prog 62 c62 := fnOk_of Tryz.func62 (by kernel_rfl) (show compFn Tryz.prog m62 62 = .ok c62 by kernel_rfl)
theorem k63 : FnOk Tryz.prog 63 c63 := fnOk_of Tryz.func63 (by kernel_rfl) (show compFn Tryz.prog m63 63 = .ok c63 by kernel_rfl)
theorem k64 : FnOk Tryz.prog 64 c64 := fnOk_of Tryz.func64 (by kernel_rfl) (show compFn Tryz.prog m64 64 = .ok c64 by kernel_rfl)
theorem k65 : FnOk Tryz.prog 65 c65 := fnOk_of Tryz.func65 (by kernel_rfl) (show compFn Tryz.prog m65 65 = .ok c65 by kernel_rfl)
theorem k66 : FnOk Tryz.prog 66 c66 := fnOk_of Tryz.func66 (by kernel_rfl) (show compFn Tryz.prog m66 66 = .ok c66 by kernel_rfl)
theorem k67 : FnOk Tryz.prog 67 c67 := fnOk_of Tryz.func67 (by kernel_rfl) (show compFn Tryz.prog m67 67 = .ok c67 by kernel_rfl)
theorem k68 : FnOk Tryz.prog 68 c68 := fnOk_of Tryz.func68 (by kernel_rfl) (show compFn Tryz.prog m68 68 = .ok c68 by kernel_rfl)
theorem k69 : FnOk Tryz.prog 69 c69 := fnOk_of Tryz.func69 (by kernel_rfl) (show compFn Tryz.prog m69 69 = .ok c69 by kernel_rfl)
theorem k70 : FnOk Tryz.prog 70 c70 := fnOk_of Tryz.func70 (by kernel_rfl) (show compFn Tryz.prog m70 70 = .ok c70 by kernel_rfl)
theorem k71 : FnOk Tryz.prog 71 c71 := fnOk_of Tryz.func71 (by kernel_rfl) (show compFn Tryz.prog m71 71 = .ok c71 by kernel_rfl)
theorem k72 : FnOk Tryz.prog 72 c72 := fnOk_of Tryz.func72 (by kernel_rfl) (show compFn Tryz.prog m72 72 = .ok c72 by kernel_rfl)
theorem k73 : FnOk Tryz.prog 73 c73 := fnOk_of Tryz.func73 (by kernel_rfl) (show compFn Tryz.prog m73 73 = .ok c73 by kernel_rfl)
theorem k74 : FnOk Tryz.prog 74 c74 := fnOk_of Tryz.func74 (by kernel_rfl) (show compFn Tryz.prog m74 74 = .ok c74 by kernel_rfl)
theorem k75 : FnOk Tryz.prog 75 c75 := fnOk_of Tryz.func75 (by kernel_rfl) (show compFn Tryz.prog m75 75 = .ok c75 by kernel_rfl)
theorem k76 : FnOk Tryz.prog 76 c76 := fnOk_of Tryz.func76 (by kernel_rfl) (show compFn Tryz.prog m76 76 = .ok c76 by kernel_rfl)
theorem k77 : FnOk Tryz.prog 77 c77 := fnOk_of Tryz.func77 (by kernel_rfl) (show compFn Tryz.prog m77 77 = .ok c77 by kernel_rfl)
theorem k78 : FnOk Tryz.prog 78 c78 := fnOk_of Tryz.func78 (by kernel_rfl) (show compFn Tryz.prog m78 78 = .ok c78 by kernel_rfl)
theorem k79 : FnOk Tryz.prog 79 c79 := fnOk_of Tryz.func79 (by kernel_rfl) (show compFn Tryz.prog m79 79 = .ok c79 by kernel_rfl)
theorem k80 : FnOk Tryz.prog 80 c80 := fnOk_of Tryz.func80 (by kernel_rfl) (show compFn Tryz.prog m80 80 = .ok c80 by kernel_rfl)
theorem k81 : FnOk Tryz.prog 81 c81 := fnOk_of Tryz.func81 (by kernel_rfl) (show compFn Tryz.prog m81 81 = .ok c81 by kernel_rfl)
theorem k82 : FnOk Tryz.prog 82 c82 := fnOk_of Tryz.func82 (by kernel_rfl) (show compFn Tryz.prog m82 82 = .ok c82 by kernel_rfl)
theorem k83 : FnOk Tryz.prog 83 c83 := fnOk_of Tryz.func83 (by kernel_rfl) (show compFn Tryz.prog m83 83 = .ok c83 by kernel_rfl)
theorem k84 : FnOk Tryz.prog 84 c84 := fnOk_of Tryz.func84 (by kernel_rfl) (show compFn Tryz.prog m84 84 = .ok c84 by kernel_rfl)
theorem k85 : FnOk Tryz.prog 85 c85 := fnOk_of Tryz.func85 (by kernel_rfl) (show compFn Tryz.prog m85 85 = .ok c85 by kernel_rfl)
theorem k86 : FnOk Tryz.prog 86 c86 := fnOk_of Tryz.func86 (by kernel_rfl) (show compFn Tryz.prog m86 86 = .ok c86 by kernel_rfl)
theorem k87 : FnOk Tryz.prog 87 c87 := fnOk_of Tryz.func87 (by kernel_rfl) (show compFn Tryz.prog m87 87 = .ok c87 by kernel_rfl)
theorem k88 : FnOk Tryz.prog 88 c88 := fnOk_of Tryz.func88 (by kernel_rfl) (show compFn Tryz.prog m88 88 = .ok c88 by kernel_rfl)
theorem k89 : FnOk Tryz.prog 89 c89 := fnOk_of Tryz.func89 (by kernel_rfl) (show compFn Tryz.prog m89 89 = .ok c89 by kernel_rfl)
theorem k90 : FnOk Tryz.prog 90 c90 := fnOk_of Tryz.func90 (by kernel_rfl) (show compFn Tryz.prog m90 90 = .ok c90 by kernel_rfl)
theorem k91 : FnOk Tryz.prog 91 c91 := fnOk_of Tryz.func91 (by kernel_rfl) (show compFn Tryz.prog m91 91 = .ok c91 by kernel_rfl)
theorem k92 : FnOk Tryz.prog 92 c92 := fnOk_of Tryz.func92 (by kernel_rfl) (show compFn Tryz.prog m92 92 = .ok c92 by kernel_rfl)
theorem k93 : FnOk Tryz.prog 93 c93 := fnOk_of Tryz.func93 (by kernel_rfl) (show compFn Tryz.prog m93 93 = .ok c93 by kernel_rfl)
theorem k94 : FnOk Tryz.prog 94 c94 := fnOk_of Tryz.func94 (by kernel_rfl) (show compFn Tryz.prog m94 94 = .ok c94 by kernel_rfl)
theorem k95 : FnOk Tryz.prog 95 c95 := fnOk_of Tryz.func95 (by kernel_rfl) (show compFn Tryz.prog m95 95 = .ok c95 by kernel_rfl)
theorem k96 : FnOk Tryz.prog 96 c96 := fnOk_of Tryz.func96 (by kernel_rfl) (show compFn Tryz.prog m96 96 = .ok c96 by kernel_rfl)
theorem k97 : FnOk Tryz.prog 97 c97 := fnOk_of Tryz.func97 (by kernel_rfl) (show compFn Tryz.prog m97 97 = .ok c97 by kernel_rfl)
theorem k98 : FnOk Tryz.prog 98 c98 := fnOk_of Tryz.func98 (by kernel_rfl) (show compFn Tryz.prog m98 98 = .ok c98 by kernel_rfl)
theorem k99 : FnOk Tryz.prog 99 c99 := fnOk_of Tryz.func99 (by kernel_rfl) (show compFn Tryz.prog m99 99 = .ok c99 by kernel_rfl)
theorem k100 : FnOk Tryz.prog 100 c100 := fnOk_of Tryz.func100 (by kernel_rfl) (show compFn Tryz.prog m100 100 = .ok c100 by kernel_rfl)
theorem k101 : FnOk Tryz.prog 101 c101 := fnOk_of Tryz.func101 (by kernel_rfl) (show compFn Tryz.prog m101 101 = .ok c101 by kernel_rfl)
theorem k102 : FnOk Tryz.prog 102 c102 := fnOk_of Tryz.func102 (by kernel_rfl) (show compFn Tryz.prog m102 102 = .ok c102 by kernel_rfl)
theorem k103 : FnOk Tryz.prog 103 c103 := fnOk_of Tryz.func103 (by kernel_rfl) (show compFn Tryz.prog m103 103 = .ok c103 by kernel_rfl)
theorem k104 : FnOk Tryz.prog 104 c104 := fnOk_of Tryz.func104 (by kernel_rfl) (show compFn Tryz.prog m104 104 = .ok c104 by kernel_rfl)
theorem k105 : FnOk Tryz.prog 105 c105 := fnOk_of Tryz.func105 (by kernel_rfl) (show compFn Tryz.prog m105 105 = .ok c105 by kernel_rfl)
theorem k106 : FnOk Tryz.prog 106 c106 := fnOk_of Tryz.func106 (by kernel_rfl) (show compFn Tryz.prog m106 106 = .ok c106 by kernel_rfl)
theorem k107 : FnOk Tryz.prog 107 c107 := fnOk_of Tryz.func107 (by kernel_rfl) (show compFn Tryz.prog m107 107 = .ok c107 by kernel_rfl)
theorem k108 : FnOk Tryz.prog 108 c108 := fnOk_of Tryz.func108 (by kernel_rfl) (show compFn Tryz.prog m108 108 = .ok c108 by kernel_rfl)
theorem k109 : FnOk Tryz.prog 109 c109 := fnOk_of Tryz.func109 (by kernel_rfl) (show compFn Tryz.prog m109 109 = .ok c109 by kernel_rfl)
theorem k110 : FnOk Tryz.prog 110 c110 := fnOk_of Tryz.func110 (by kernel_rfl) (show compFn Tryz.prog m110 110 = .ok c110 by kernel_rfl)
theorem k111 : FnOk Tryz.prog 111 c111 := fnOk_of Tryz.func111 (by kernel_rfl) (show compFn Tryz.prog m111 111 = .ok c111 by kernel_rfl)
theorem k112 : FnOk Tryz.prog 112 c112 := fnOk_of Tryz.func112 (by kernel_rfl) (show compFn Tryz.prog m112 112 = .ok c112 by kernel_rfl)
theorem k113 : FnOk Tryz.prog 113 c113 := fnOk_of Tryz.func113 (by kernel_rfl) (show compFn Tryz.prog m113 113 = .ok c113 by kernel_rfl)
theorem k114 : FnOk Tryz.prog 114 c114 := fnOk_of Tryz.func114 (by kernel_rfl) (show compFn Tryz.prog m114 114 = .ok c114 by kernel_rfl)
theorem k115 : FnOk Tryz.prog 115 c115 := fnOk_of Tryz.func115 (by kernel_rfl) (show compFn Tryz.prog m115 115 = .ok c115 by kernel_rfl)
theorem k116 : FnOk Tryz.prog 116 c116 := fnOk_of Tryz.func116 (by kernel_rfl) (show compFn Tryz.prog m116 116 = .ok c116 by kernel_rfl)
theorem k117 : FnOk Tryz.prog 117 c117 := fnOk_of Tryz.func117 (by kernel_rfl) (show compFn Tryz.prog m117 117 = .ok c117 by kernel_rfl)
theorem k118 : FnOk Tryz.prog 118 c118 := fnOk_of Tryz.func118 (by kernel_rfl) (show compFn Tryz.prog m118 118 = .ok c118 by kernel_rfl)
theorem k119 : FnOk Tryz.prog 119 c119 := fnOk_of Tryz.func119 (by kernel_rfl) (show compFn Tryz.prog m119 119 = .ok c119 by kernel_rfl)
theorem k120 : FnOk Tryz.prog 120 c120 := fnOk_of Tryz.func120 (by kernel_rfl) (show compFn Tryz.prog m120 120 = .ok c120 by kernel_rfl)
theorem k121 : FnOk Tryz.prog 121 c121 := fnOk_of Tryz.func121 (by kernel_rfl) (show compFn Tryz.prog m121 121 = .ok c121 by kernel_rfl)
theorem k122 : FnOk Tryz.prog 122 c122 := fnOk_of Tryz.func122 (by kernel_rfl) (show compFn Tryz.prog m122 122 = .ok c122 by kernel_rfl)
theorem k124 : FnOk Tryz.prog 124 c124 := fnOk_of Tryz.func124 (by kernel_rfl) (show compFn Tryz.prog m124 124 = .ok c124 by kernel_rfl)
theorem k125 : FnOk Tryz.prog 125 c125 := fnOk_of Tryz.func125 (by kernel_rfl) (show compFn Tryz.prog m125 125 = .ok c125 by kernel_rfl)
theorem k126 : FnOk Tryz.prog 126 c126 := fnOk_of Tryz.func126 (by kernel_rfl) (show compFn Tryz.prog m126 126 = .ok c126 by kernel_rfl)
theorem k127 : FnOk Tryz.prog 127 c127 := fnOk_of Tryz.func127 (by kernel_rfl) (show compFn Tryz.prog m127 127 = .ok c127 by kernel_rfl)
theorem k128 : FnOk Tryz.prog 128 c128 := fnOk_of Tryz.func128 (by kernel_rfl) (show compFn Tryz.prog m128 128 = .ok c128 by kernel_rfl)
theorem k129 : FnOk Tryz.prog 129 c129 := fnOk_of Tryz.func129 (by kernel_rfl) (show compFn Tryz.prog m129 129 = .ok c129 by kernel_rfl)
theorem k130 : FnOk Tryz.prog 130 c130 := fnOk_of Tryz.func130 (by kernel_rfl) (show compFn Tryz.prog m130 130 = .ok c130 by kernel_rfl)
theorem k131 : FnOk Tryz.prog 131 c131 := fnOk_of Tryz.func131 (by kernel_rfl) (show compFn Tryz.prog m131 131 = .ok c131 by kernel_rfl)
theorem k132 : FnOk Tryz.prog 132 c132 := fnOk_of Tryz.func132 (by kernel_rfl) (show compFn Tryz.prog m132 132 = .ok c132 by kernel_rfl)
theorem k133 : FnOk Tryz.prog 133 c133 := fnOk_of Tryz.func133 (by kernel_rfl) (show compFn Tryz.prog m133 133 = .ok c133 by kernel_rfl)
theorem k134 : FnOk Tryz.prog 134 c134 := fnOk_of Tryz.func134 (by kernel_rfl) (show compFn Tryz.prog m134 134 = .ok c134 by kernel_rfl)
theorem k135 : FnOk Tryz.prog 135 c135 := fnOk_of Tryz.func135 (by kernel_rfl) (show compFn Tryz.prog m135 135 = .ok c135 by kernel_rfl)
theorem k136 : FnOk Tryz.prog 136 c136 := fnOk_of Tryz.func136 (by kernel_rfl) (show compFn Tryz.prog m136 136 = .ok c136 by kernel_rfl)
theorem k137 : FnOk Tryz.prog 137 c137 := fnOk_of Tryz.func137 (by kernel_rfl) (show compFn Tryz.prog m137 137 = .ok c137 by kernel_rfl)
theorem k138 : FnOk Tryz.prog 138 c138 := fnOk_of Tryz.func138 (by kernel_rfl) (show compFn Tryz.prog m138 138 = .ok c138 by kernel_rfl)
theorem k139 : FnOk Tryz.prog 139 c139 := fnOk_of Tryz.func139 (by kernel_rfl) (show compFn Tryz.prog m139 139 = .ok c139 by kernel_rfl)
theorem k140 : FnOk Tryz.prog 140 c140 := fnOk_of Tryz.func140 (by kernel_rfl) (show compFn Tryz.prog m140 140 = .ok c140 by kernel_rfl)
theorem k141 : FnOk Tryz.prog 141 c141 := fnOk_of Tryz.func141 (by kernel_rfl) (show compFn Tryz.prog m141 141 = .ok c141 by kernel_rfl)
theorem k142 : FnOk Tryz.prog 142 c142 := fnOk_of Tryz.func142 (by kernel_rfl) (show compFn Tryz.prog m142 142 = .ok c142 by kernel_rfl)
theorem k143 : FnOk Tryz.prog 143 c143 := fnOk_of Tryz.func143 (by kernel_rfl) (show compFn Tryz.prog m143 143 = .ok c143 by kernel_rfl)
theorem k144 : FnOk Tryz.prog 144 c144 := fnOk_of Tryz.func144 (by kernel_rfl) (show compFn Tryz.prog m144 144 = .ok c144 by kernel_rfl)
theorem k145 : FnOk Tryz.prog 145 c145 := fnOk_of Tryz.func145 (by kernel_rfl) (show compFn Tryz.prog m145 145 = .ok c145 by kernel_rfl)
theorem k146 : FnOk Tryz.prog 146 c146 := fnOk_of Tryz.func146 (by kernel_rfl) (show compFn Tryz.prog m146 146 = .ok c146 by kernel_rfl)
theorem k147 : FnOk Tryz.prog 147 c147 := fnOk_of Tryz.func147 (by kernel_rfl) (show compFn Tryz.prog m147 147 = .ok c147 by kernel_rfl)
theorem k148 : FnOk Tryz.prog 148 c148 := fnOk_of Tryz.func148 (by kernel_rfl) (show compFn Tryz.prog m148 148 = .ok c148 by kernel_rfl)
theorem k149 : FnOk Tryz.prog 149 c149 := fnOk_of Tryz.func149 (by kernel_rfl) (show compFn Tryz.prog m149 149 = .ok c149 by kernel_rfl)
theorem k150 : FnOk Tryz.prog 150 c150 := fnOk_of Tryz.func150 (by kernel_rfl) (show compFn Tryz.prog m150 150 = .ok c150 by kernel_rfl)
theorem k151 : FnOk Tryz.prog 151 c151 := fnOk_of Tryz.func151 (by kernel_rfl) (show compFn Tryz.prog m151 151 = .ok c151 by kernel_rfl)
theorem k152 : FnOk Tryz.prog 152 c152 := fnOk_of Tryz.func152 (by kernel_rfl) (show compFn Tryz.prog m152 152 = .ok c152 by kernel_rfl)
theorem k153 : FnOk Tryz.prog 153 c153 := fnOk_of Tryz.func153 (by kernel_rfl) (show compFn Tryz.prog m153 153 = .ok c153 by kernel_rfl)
theorem k154 : FnOk Tryz.prog 154 c154 := fnOk_of Tryz.func154 (by kernel_rfl) (show compFn Tryz.prog m154 154 = .ok c154 by kernel_rfl)
theorem k155 : FnOk Tryz.prog 155 c155 := fnOk_of Tryz.func155 (by kernel_rfl) (show compFn Tryz.prog m155 155 = .ok c155 by kernel_rfl)
theorem k156 : FnOk Tryz.prog 156 c156 := fnOk_of Tryz.func156 (by kernel_rfl) (show compFn Tryz.prog m156 156 = .ok c156 by kernel_rfl)
theorem k157 : FnOk Tryz.prog 157 c157 := fnOk_of Tryz.func157 (by kernel_rfl) (show compFn Tryz.prog m157 157 = .ok c157 by kernel_rfl)
theorem k158 : FnOk Tryz.prog 158 c158 := fnOk_of Tryz.func158 (by kernel_rfl) (show compFn Tryz.prog m158 158 = .ok c158 by kernel_rfl)
theorem k159 : FnOk Tryz.prog 159 c159 := fnOk_of Tryz.func159 (by kernel_rfl) (show compFn Tryz.prog m159 159 = .ok c159 by kernel_rfl)
theorem k160 : FnOk Tryz.prog 160 c160 := fnOk_of Tryz.func160 (by kernel_rfl) (show compFn Tryz.prog m160 160 = .ok c160 by kernel_rfl)
theorem k161 : FnOk Tryz.prog 161 c161 := fnOk_of Tryz.func161 (by kernel_rfl) (show compFn Tryz.prog m161 161 = .ok c161 by kernel_rfl)
theorem k162 : FnOk Tryz.prog 162 c162 := fnOk_of Tryz.func162 (by kernel_rfl) (show compFn Tryz.prog m162 162 = .ok c162 by kernel_rfl)
theorem k163 : FnOk Tryz.prog 163 c163 := fnOk_of Tryz.func163 (by kernel_rfl) (show compFn Tryz.prog m163 163 = .ok c163 by kernel_rfl)
theorem k164 : FnOk Tryz.prog 164 c164 := fnOk_of Tryz.func164 (by kernel_rfl) (show compFn Tryz.prog m164 164 = .ok c164 by kernel_rfl)
theorem k166 : FnOk Tryz.prog 166 c166 := fnOk_of Tryz.func166 (by kernel_rfl) (show compFn Tryz.prog m166 166 = .ok c166 by kernel_rfl)
theorem k168 : FnOk Tryz.prog 168 c168 := fnOk_of Tryz.func168 (by kernel_rfl) (show compFn Tryz.prog m168 168 = .ok c168 by kernel_rfl)
theorem k188 : FnOk Tryz.prog 188 c188 := fnOk_of Tryz.func188 (by kernel_rfl) (show compFn Tryz.prog m188 188 = .ok c188 by kernel_rfl)
theorem k212 : FnOk Tryz.prog 212 c212 := fnOk_of Tryz.func212 (by kernel_rfl) (show compFn Tryz.prog m212 212 = .ok c212 by kernel_rfl)
theorem tabL_ok : ∀ p, p ∈ tabL → FnOk Tryz.prog p.1 p.2 := by
  unfold tabL
  intro p hp
  simp only [List.mem_cons, List.not_mem_nil, or_false] at hp
  rcases hp with rfl | rfl | rfl | rfl | rfl | rfl | rfl | rfl | rfl | rfl | rfl | rfl | rfl | rfl | rfl | rfl | rfl | rfl | rfl | rfl | rfl | rfl | rfl | rfl | rfl | rfl | rfl | rfl | rfl | rfl | rfl | rfl | rfl | rfl | rfl | rfl | rfl | rfl | rfl | rfl | rfl | rfl | rfl | rfl | rfl | rfl | rfl | rfl | rfl | rfl | rfl | rfl | rfl | rfl | rfl | rfl | rfl | rfl | rfl | rfl | rfl | rfl | rfl | rfl | rfl | rfl | rfl | rfl | rfl | rfl | rfl | rfl | rfl | rfl | rfl | rfl | rfl | rfl | rfl | rfl | rfl | rfl | rfl | rfl | rfl | rfl | rfl | rfl | rfl | rfl | rfl | rfl | rfl | rfl | rfl | rfl | rfl | rfl | rfl | rfl | rfl | rfl | rfl | rfl | rfl | rfl | rfl | rfl | rfl | rfl | rfl | rfl | rfl | rfl | rfl | rfl | rfl | rfl | rfl | rfl | rfl | rfl | rfl | rfl | rfl | rfl | rfl | rfl | rfl | rfl | rfl | rfl | rfl | rfl | rfl | rfl | rfl | rfl | rfl | rfl | rfl | rfl | rfl | rfl | rfl | rfl | rfl | rfl | rfl | rfl | rfl | rfl | rfl | rfl | rfl | rfl | rfl | rfl | rfl | rfl | rfl | rfl | rfl | rfl | rfl
  · exact k2
  · exact k3
  · exact k4
  · exact k5
  · exact k6
  · exact k7
  · exact k8
  · exact k9
  · exact k10
  · exact k11
  · exact k12
  · exact k13
  · exact k14
  · exact k15
  · exact k16
  · exact k17
  · exact k18
  · exact k19
  · exact k20
  · exact k21
  · exact k22
  · exact k23
  · exact k24
  · exact k25
  · exact k26
  · exact k27
  · exact k28
  · exact k29
  · exact k30
  · exact k31
  · exact k32
  · exact k33
  · exact k34
  · exact k35
  · exact k36
  · exact k37
  · exact k38
  · exact k39
  · exact k40
  · exact k41
  · exact k42
  · exact k43
  · exact k44
  · exact k45
  · exact k46
  · exact k48
  · exact k49
  · exact k50
  · exact k51
  · exact k52
  · exact k53
  · exact k54
  · exact k55
  · exact k56
  · exact k57
  · exact k58
  · exact k59
  · exact k60
  · exact k61
  · exact k62
  · exact k63
  · exact k64
  · exact k65
  · exact k66
  · exact k67
  · exact k68
  · exact k69
  · exact k70
  · exact k71
  · exact k72
  · exact k73
  · exact k74
  · exact k75
  · exact k76
  · exact k77
  · exact k78
  · exact k79
  · exact k80
  · exact k81
  · exact k82
  · exact k83
  · exact k84
  · exact k85
  · exact k86
  · exact k87
  · exact k88
  · exact k89
  · exact k90
  · exact k91
  · exact k92
  · exact k93
  · exact k94
  · exact k95
  · exact k96
  · exact k97
  · exact k98
  · exact k99
  · exact k100
  · exact k101
  · exact k102
  · exact k103
  · exact k104
  · exact k105
  · exact k106
  · exact k107
  · exact k108
  · exact k109
  · exact k110
  · exact k111
  · exact k112
  · exact k113
  · exact k114
  · exact k115
  · exact k116
  · exact k117
  · exact k118
  · exact k119
  · exact k120
  · exact k121
  · exact k122
  · exact k124
  · exact k125
  · exact k126
  · exact k127
  · exact k128
  · exact k129
  · exact k130
  · exact k131
  · exact k132
  · exact k133
  · exact k134
  · exact k135
  · exact k136
  · exact k137
  · exact k138
  · exact k139
  · exact k140
  · exact k141
  · exact k142
  · exact k143
  · exact k144
  · exact k145
  · exact k146
  · exact k147
  · exact k148
  · exact k149
  · exact k150
  · exact k151
  · exact k152
  · exact k153
  · exact k154
  · exact k155
  · exact k156
  · exact k157
  · exact k158
  · exact k159
  · exact k160
  · exact k161
  · exact k162
  · exact k163
  · exact k164
  · exact k166
  · exact k168
  · exact k188
  · exact k212
theorem noEscape_run (x : Value) (w : World) : (callFunc 123 #[x]).run Tryz.prog w = .ok (.value x) w := by
  rw [run_callFunc_extern Tryz.func123 (by kernel_rfl) (by kernel_rfl) (by kernel_rfl) (e := Extern.AbiNoEscape.same) (by kernel_rfl)]
  rfl
end Go.Proofs.YtlbfndapmlmcfaaGreatDoor
