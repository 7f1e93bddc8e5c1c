/- Functions of the program for the abstract machine, printed by a program. -/
import Derived.Test.YtimdocpnkimlfaaGreatDoorZCx1
set_option linter.unusedVariables false
set_option linter.unusedSimpArgs false
set_option maxRecDepth 100000
set_option maxHeartbeats 4000000
namespace Go.Z
open Go Go.Abs
def zI:aj:=bf 0x87f42f32f06d7d14bf6bf7fe93ffdb79661d0bd5bc1b5ef934bf6bf1bed97eb3b37c9beccb9f6edf191c375d4cddfe2f176be9b27f6bf66fe68e5996bf02436fed6b5339
def Ug:qj:=bj [] (kp zI) [4,18]
def zJ:aj:=bf 0x3bfd77717b756306b4b74656b4b63b67ad4d7c4e0cca7e9efdd7b536b
def Uh:qj:=bj [] (kp zJ) [2,5]
def zK:aj:=bf 0x97af5dd95967a9bff57fd164fed7d6d8e8fe0ece6fd696e8cad696efedcf5a5adb3d7fd5b75a5ba32b5a5aced9eb4b5967affa1bafbbb433d7
def Ui:qj:=bj [] (kp zK) []
def zL:aj:=bf 0xafefbb4bcb55f79da5ea7d9cdb6b43d935e1cbf6bec6e3331c09efdd7ba9b1
def Uj:qj:=bj [] (kp zL) [3,7]
def zM:aj:=bf 0x12fbd7766db3efffbf4bbeeeeccb
def Uk:qj:=bj [] (kp zM) []
def zN:aj:=bf 0x97debbb363cfbfff6977e27df774663
def Ul:qj:=bj [] (kp zN) []
def zO:aj:=bf 0x97debbb363cfbfff6977e27df774663
def Um:qj:=bj [] (kp zO) []
def zP:aj:=bf 0x4bed2eecd967dffbdd9667
def Un:qj:=bj [] (kp zP) []
def zQ:aj:=bf 0x4bfd2eecd967dffbdd9667
def Uo:qj:=bj [] (kp zQ) []
def zR:aj:=bf 0x97da5dd9b067dffbdd9667
def Up:qj:=bj [] (kp zR) []
def zS:aj:=bf 0x97debbb362e7e3ffe8c3b4bb173effdeec0ce9
def Uq:qj:=bj [] (kp zS) []
def jhm:au:=cN 0x993712f0ef4fb809a98efbedde5b5bb4cb992ae1f7c73f745d7eabf37adbfedd74665717c5e3dbed3450a8ae4322ef78a6e6
def zT:aj:=da 0x2bfbef6a2b731ead429937c7b73bb431303e2b7319 jhm
def Ur:qj:={ takes:=[8,10,17],bz:=[],bA:=[],shr:=[(4,5)],keep:=kp zT }
def zU:aj:=bf 0x15fdf796f2dafa2b2fdafe37c6d660f8adcc3
def Us:qj:=bj [] (kp zU) []
def kz:au:=cN 0x4742f72f06e4ed32e68bf55d7d9b39fdef7cff9bdfefbdd9abd572ef7a6f177aff5e7f559a28a8ae44955c7aeb99aea6
def lS:aj:=da 0x87f42f6a21b98f56a164afe9e673f69ad83fc437351 kz
def Ut:qj:={ takes:=[20],bz:=[],bA:=[],shr:=[(4,2)],keep:=kp lS }
def zV:aj:=bf 0x1dfd6f2dedb5eaef3a5f76f77677ec3b479661d6f0276e65cb8ec8cefba61e04edcc3
def Uu:qj:=bj [] (kp zV) []
def zW:aj:=bf 0xefeb796f6daf1efaa5f76f010205d62b479661d6f0276e65cb8ec8cefba61e04edcc3
def Uv:qj:=bj [] (kp zW) []
def zX:aj:=bf 0x4bd7873ebb0f5ff4375f4b77663
def Uw:qj:={ takes:=[],bz:=[],bA:=[],shr:=[(0,4)],keep:=kp zX }
def zY:aj:=bf 0x21fd0bccbc1b5bb4d25ef0e7ebf55f7efe6f5b7d9bd7f5fa0ceb6f0dd71378df178bb5cf75f4c33b73f3472ec3f02437339
def Ux:qj:={ takes:=[19],bz:=[10],bA:=[],shr:=[(3,4)],keep:=kp zY }
def zZ:aj:=bf 0x97d5ef66fffbfa2efbb9661
def Uy:qj:=bj [] (kp zZ) []
def Aa:aj:=bf 0xafefbb4bcb55fd7d4bd4f9edad687a4d79770fb5f6371998e04f7ed7ba9b1
def Uz:qj:=bj [] (kp Aa) [3,7]
def jhk:au:=cN 0x264dc4bc3bd3ee026a63befb7796d6ed32e64ab87df1cfdd8bafdabf37adbfedd74665717c5e3dbed3450a8ae4322ef78a6e6
def Ab:aj:=da 0x2bfbef6a2b731ead429937c7b73bb431303e2b7319 jhk
def UA:qj:={ takes:=[8,10,17],bz:=[],bA:=[],shr:=[(4,5)],keep:=kp Ab }
def Ac:aj:=bf 0x87f42f32f06d6ed3497bc39fafdabefdfcdeb6fb37afebf60ceb6f0dd71378df178bb5d9cbcecc33b73f3472ec3f02437339
def UB:qj:={ takes:=[19],bz:=[10],bA:=[],shr:=[(3,4)],keep:=kp Ac }
def Ad:aj:=bf 0x25f57becdfff7f62efbb9661
def UC:qj:=bj [] (kp Ad) []
def Ae:aj:=bf 0x15fdf769796abef3b4bd4fb39b6d687b26bc0bf6bec6e3331c09efdd7ba9b1
def UD:qj:=bj [] (kp Ae) [3,7]
def Af:aj:=bf 0x1dfd6f2dedb5e3bf52fbb78081a6b479661d6f0276e65cb8ec8cefba61e04edcc3
def UE:qj:=bj [] (kp Af) []
def Ag:aj:=bf 0x77f5bcb7b6d7ebea5f76f67a6b479661d6f0276e65cb8ec8cefba61e04edcc3
def UF:qj:=bj [] (kp Ag) []
def Ah:aj:=bf 0xefeb796f6daf79da5f76f6ce4db479661d6f0276e65cb8ec8cefba61e04edcc3
def UG:qj:=bj [] (kp Ah) []
def Ai:aj:=bf 0x3bfade5bdb6bcdf8d2fbb7b75c081cee0c1b479661d6f0276e65cb8ec8cefba61e04edcc3
def UH:qj:=bj [] (kp Ai) []
def Aj:aj:=bf 0x21fd0bccbc1b5bb4d25ef0e7ebf55f7efe6f5b7d9bd7f5fa0ceb6f0dd71378df178bb5cf75f4c33b73f3472ec3f02437339
def UI:qj:={ takes:=[19],bz:=[10],bA:=[],shr:=[(3,4)],keep:=kp Aj }
def Ak:aj:=bf 0x97d5ef66fffbfa2efbb9661
def UJ:qj:=bj [] (kp Ak) []
def Al:aj:=bf 0x57f7dda5e5aafebea5ea7cf6d6b43d26bc725fb5f6371998e04f7ed7ba9b1
def UK:qj:=bj [] (kp Al) [3,7]
def Am:aj:=bf 0xefeb796f6daf79da5f76f6ce4db479661d6f0276e65cb8ec8cefba61e04edcc3
def UL:qj:=bj [] (kp Am) []
def Ao:aj:=bf 0x77f5bcb7b6d7ebea5f76f67a6b479661d6f0276e65cb8ec8cefba61e04edcc3
def UM:qj:=bj [] (kp Ao) []
end Go.Z
