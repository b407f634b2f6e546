/- Facts. No condition. -/
import Derived.Test.YtkdohhmacfoolaaGreatDoorRows
import Derived.Test.YtkdohhmacfoolaaGreatDoorOaAmB
set_option linter.unusedSimpArgs false
set_option linter.unusedVariables false
namespace Go.Proofs.YtkdohhmacfoolaaGreatDoor
open Go.Proofs.Tryz Go Go.AM
theorem sz0:aO prog 0=some 1:=by kernel_rfl
theorem sz1:aO prog 1=some 1:=by kernel_rfl
theorem tb1:Tryz.t1.bytes=8:=rfl
theorem sz2:aO prog 2=some 1:=by kernel_rfl
theorem sz3:aO prog 3=some 1:=by kernel_rfl
theorem in3:Tryz.prog.info? 3=some Tryz.t3:=by kernel_rfl
theorem ts3:Tryz.t3.size=1:=rfl
theorem tb3:Tryz.t3.bytes=8:=rfl
theorem tz3:Tryz.t3.zero=some (Value.int IntKind.i64 0):=rfl
theorem zc3:zeroCells? prog 3=some [.v (Value.int IntKind.i64 0)]:=by kernel_rfl
theorem sz4:aO prog 4=some 1:=by kernel_rfl
theorem in4:Tryz.prog.info? 4=some Tryz.t4:=by kernel_rfl
theorem ts4:Tryz.t4.size=1:=rfl
theorem tb4:Tryz.t4.bytes=1:=rfl
theorem tz4:Tryz.t4.zero=some (Value.bool false):=rfl
theorem zc4:zeroCells? prog 4=some [.v (Value.bool false)]:=by kernel_rfl
theorem sz5:aO prog 5=some 1:=by kernel_rfl
theorem sz6:aO prog 6=some 1:=by kernel_rfl
theorem sz7:aO prog 7=some 4:=by kernel_rfl
theorem sz8:aO prog 8=some 4:=by kernel_rfl
theorem sz9:aO prog 9=some 1:=by kernel_rfl
theorem in9:Tryz.prog.info? 9=some Tryz.t9:=by kernel_rfl
theorem ts9:Tryz.t9.size=1:=rfl
theorem tb9:Tryz.t9.bytes=16:=rfl
theorem tz9:Tryz.t9.zero=some (Value.string { data:= #[] }):=rfl
theorem zc9:zeroCells? prog 9=some [.v (Value.string { data:= #[] })]:=by kernel_rfl
theorem bS9:aO prog 10=some 1:=by kernel_rfl
theorem bSa:aO prog 11=some 1:=by kernel_rfl
theorem bSb:aO prog 12=some 1:=by kernel_rfl
theorem bSc:aO prog 13=some 2:=by kernel_rfl
theorem bSd:aO prog 14=some 2:=by kernel_rfl
theorem bSe:aO prog 15=some 1:=by kernel_rfl
theorem bSf:aO prog 16=some 1:=by kernel_rfl
theorem bSg:aO prog 17=some 1:=by kernel_rfl
theorem bSh:aO prog 18=some 1:=by kernel_rfl
theorem bSi:aO prog 19=some 1:=by kernel_rfl
theorem bSj:aO prog 20=some 1:=by kernel_rfl
theorem bSk:aO prog 21=some 1:=by kernel_rfl
theorem bSl:aO prog 22=some 3:=by kernel_rfl
theorem bSm:aO prog 23=some 3:=by kernel_rfl
theorem bUu:zeroCells? prog 23=some [.v (Value.int IntKind.i64 0),.v (Value.int IntKind.i64 0),.v (Value.int IntKind.i64 0)]:=by kernel_rfl
theorem bSn:aO prog 24=some 1:=by kernel_rfl
theorem bKg:Tryz.prog.info? 24=some Tryz.t24:=by kernel_rfl
theorem bUp:Tryz.t24.size=1:=rfl
theorem bQl:Tryz.t24.bytes=24:=rfl
theorem bQr:Tryz.t24.zero=some (Value.slice none 0 0):=rfl
theorem bSo:aO prog 25=some 1:=by kernel_rfl
theorem bSp:aO prog 26=some 1:=by kernel_rfl
theorem bSq:aO prog 27=some 1:=by kernel_rfl
theorem bJ5:aO prog 28=some 1:=by kernel_rfl
theorem bJk:zeroCells? prog 28=some [.v (Value.slice none 0 0)]:=by kernel_rfl
theorem bSr:aO prog 29=some 5:=by kernel_rfl
theorem bSs:aO prog 30=some 5:=by kernel_rfl
theorem bUv:zeroCells? prog 30=some [.v (Value.int IntKind.i64 0),.v (Value.int IntKind.i64 0),.v (Value.int IntKind.i64 0),.v (Value.slice none 0 0),.v (Value.slice none 0 0)]:=by kernel_rfl
theorem bSt:aO prog 31=some 1:=by kernel_rfl
theorem bSu:aO prog 32=some 6:=by kernel_rfl
theorem bSv:aO prog 33=some 6:=by kernel_rfl
theorem bUw:zeroCells? prog 33=some [.v (Value.int IntKind.i64 0),.v (Value.int IntKind.i64 0),.v (Value.int IntKind.i64 0),.v (Value.slice none 0 0),.v (Value.slice none 0 0),.v (Value.slice none 0 0)]:=by kernel_rfl
theorem bSw:aO prog 34=some 2:=by kernel_rfl
theorem bSx:aO prog 35=some 2:=by kernel_rfl
theorem bUx:zeroCells? prog 35=some [.v (Value.slice none 0 0),.v (Value.int IntKind.i64 0)]:=by kernel_rfl
theorem bSy:aO prog 36=some 1:=by kernel_rfl
theorem bKh:Tryz.prog.info? 36=some Tryz.t36:=by kernel_rfl
theorem bUq:Tryz.t36.size=1:=rfl
theorem bQm:Tryz.t36.bytes=8:=rfl
theorem bQs:Tryz.t36.zero=some (Value.int IntKind.i64 0):=rfl
theorem bSz:aO prog 37=some 1:=by kernel_rfl
theorem bT0:aO prog 38=some 1:=by kernel_rfl
theorem bT1:aO prog 39=some 1:=by kernel_rfl
theorem aK9:aO prog 40=some 1:=by kernel_rfl
theorem bIe:Tryz.prog.info? 40=some Tryz.t40:=by kernel_rfl
theorem bJa:Tryz.t40.size=1:=rfl
theorem bA5:Tryz.t40.bytes=8:=rfl
theorem bJe:Tryz.t40.zero=some (Value.int IntKind.u64 0):=rfl
theorem bGv:zeroCells? prog 40=some [.v (Value.int IntKind.u64 0)]:=by kernel_rfl
theorem bT2:aO prog 41=some 4:=by kernel_rfl
theorem bT3:aO prog 42=some 4:=by kernel_rfl
theorem bUy:zeroCells? prog 42=some [.v (Value.int IntKind.i64 0),.v (Value.int IntKind.u64 0),.v (Value.int IntKind.u64 0),.v (Value.string { data:= #[] })]:=by kernel_rfl
theorem bT4:aO prog 43=some 1:=by kernel_rfl
theorem bT5:aO prog 44=some 1:=by kernel_rfl
theorem bT6:aO prog 45=some 1:=by kernel_rfl
theorem bT7:aO prog 46=some 1:=by kernel_rfl
theorem bT8:aO prog 47=some 1:=by kernel_rfl
theorem bT9:aO prog 48=some 1:=by kernel_rfl
theorem bTa:aO prog 49=some 1:=by kernel_rfl
theorem bTb:aO prog 50=some 1:=by kernel_rfl
theorem bTc:aO prog 51=some 1:=by kernel_rfl
theorem bTd:aO prog 52=some 1:=by kernel_rfl
theorem bTe:aO prog 53=some 1:=by kernel_rfl
theorem bTf:aO prog 54=some 1:=by kernel_rfl
theorem bTg:aO prog 55=some 1:=by kernel_rfl
theorem aSw:aO prog 56=some 1:=by kernel_rfl
theorem bR5:Tryz.prog.info? 56=some Tryz.t56:=by kernel_rfl
theorem bUr:Tryz.t56.size=1:=rfl
theorem bUn:Tryz.t56.bytes=24:=rfl
theorem bUz:zeroCells? prog 56=some [.v (Value.slice none 0 0)]:=by kernel_rfl
theorem bTh:aO prog 57=some 1:=by kernel_rfl
theorem bTi:aO prog 58=some 1:=by kernel_rfl
theorem bTj:aO prog 59=some 1:=by kernel_rfl
theorem bTk:aO prog 60=some 3:=by kernel_rfl
theorem aKa:aO prog 61=some 3:=by kernel_rfl
theorem bEu:Tryz.prog.info? 61=some Tryz.t61:=by kernel_rfl
theorem bGs:Tryz.t61.size=3:=rfl
theorem aSz:Tryz.t61.bytes=24:=rfl
theorem bGt:Tryz.t61.zero=some (Value.agg #[Value.int IntKind.i64 0,Value.int IntKind.i64 0,Value.int IntKind.i64 0]):=rfl
theorem aVz:zeroCells? prog 61=some [.v (Value.int IntKind.i64 0),.v (Value.int IntKind.i64 0),.v (Value.int IntKind.i64 0)]:=by kernel_rfl
theorem bTl:aO prog 62=some 1:=by kernel_rfl
theorem bTm:aO prog 63=some 1:=by kernel_rfl
theorem bTn:aO prog 64=some 1:=by kernel_rfl
theorem bTo:aO prog 65=some 1:=by kernel_rfl
theorem bTp:aO prog 66=some 1:=by kernel_rfl
theorem bTq:aO prog 67=some 9:=by kernel_rfl
theorem bTr:aO prog 68=some 9:=by kernel_rfl
theorem bV0:zeroCells? prog 68=some [.v (Value.int IntKind.i64 0),.v (Value.int IntKind.i64 0),.v (Value.int IntKind.i64 0),.v (Value.slice none 0 0),.v (Value.slice none 0 0),.v (Value.slice none 0 0),.v (Value.slice none 0 0),.v (Value.int IntKind.i64 0),.v (Value.bool false)]:=by kernel_rfl
theorem bJ6:aO prog 69=some 1:=by kernel_rfl
theorem bIf:Tryz.prog.info? 69=some Tryz.t69:=by kernel_rfl
theorem bJb:Tryz.t69.size=1:=rfl
theorem bA6:Tryz.t69.bytes=24:=rfl
theorem bJf:Tryz.t69.zero=some (Value.slice none 0 0):=rfl
theorem bJl:zeroCells? prog 69=some [.v (Value.slice none 0 0)]:=by kernel_rfl
theorem bTs:aO prog 70=some 1:=by kernel_rfl
theorem bTt:aO prog 71=some 1:=by kernel_rfl
theorem bTu:aO prog 72=some 1:=by kernel_rfl
theorem bTv:aO prog 73=some 1:=by kernel_rfl
theorem bTw:aO prog 74=some 1:=by kernel_rfl
theorem bTx:aO prog 75=some 1:=by kernel_rfl
theorem bTy:aO prog 76=some 1:=by kernel_rfl
theorem bTz:aO prog 77=some 1:=by kernel_rfl
theorem bU0:aO prog 78=some 1:=by kernel_rfl
theorem bU1:aO prog 79=some 1:=by kernel_rfl
theorem bU2:aO prog 80=some 1:=by kernel_rfl
theorem bU3:aO prog 81=some 1:=by kernel_rfl
theorem bU4:aO prog 82=some 1:=by kernel_rfl
theorem bU5:aO prog 83=some 1:=by kernel_rfl
theorem bU6:aO prog 84=some 1:=by kernel_rfl
theorem bU7:aO prog 85=some 1:=by kernel_rfl
theorem bU8:aO prog 86=some 1:=by kernel_rfl
theorem bU9:aO prog 87=some 1:=by kernel_rfl
theorem bUa:aO prog 88=some 1:=by kernel_rfl
theorem bUb:aO prog 89=some 1:=by kernel_rfl
theorem bUc:aO prog 90=some 1:=by kernel_rfl
theorem bUd:aO prog 91=some 1:=by kernel_rfl
theorem bUe:aO prog 92=some 1:=by kernel_rfl
theorem bUf:aO prog 93=some 2:=by kernel_rfl
theorem bGk:aO prog 94=some 2:=by kernel_rfl
theorem bIg:Tryz.prog.info? 94=some Tryz.t94:=by kernel_rfl
theorem bJc:Tryz.t94.size=2:=rfl
theorem bA7:Tryz.t94.bytes=16:=rfl
theorem bJg:Tryz.t94.zero=some (Value.agg #[Value.int IntKind.u64 0,Value.int IntKind.u64 0]):=rfl
theorem bGw:zeroCells? prog 94=some [.v (Value.int IntKind.u64 0),.v (Value.int IntKind.u64 0)]:=by kernel_rfl
theorem bUg:aO prog 95=some 2:=by kernel_rfl
theorem bGl:aO prog 96=some 2:=by kernel_rfl
theorem bIh:Tryz.prog.info? 96=some Tryz.t96:=by kernel_rfl
theorem bJd:Tryz.t96.size=2:=rfl
theorem bA8:Tryz.t96.bytes=16:=rfl
theorem bJh:Tryz.t96.zero=some (Value.agg #[Value.bool false,Value.int IntKind.u64 0]):=rfl
theorem bGx:zeroCells? prog 96=some [.v (Value.bool false),.v (Value.int IntKind.u64 0)]:=by kernel_rfl
theorem bUh:aO prog 97=some 1:=by kernel_rfl
theorem bUi:aO prog 98=some 1:=by kernel_rfl
theorem bUj:aO prog 99=some 1:=by kernel_rfl
theorem bLf:aO prog 100=some 1:=by kernel_rfl
theorem bLg:aO prog 101=some 1:=by kernel_rfl
theorem bLh:aO prog 102=some 1:=by kernel_rfl
theorem bLi:aO prog 103=some 1:=by kernel_rfl
theorem bLj:aO prog 104=some 1:=by kernel_rfl
theorem bLk:aO prog 105=some 3:=by kernel_rfl
theorem bLl:aO prog 106=some 3:=by kernel_rfl
theorem bQu:zeroCells? prog 106=some [.v (Value.bool false),.v (Value.int IntKind.i64 0),.v (Value.int IntKind.i64 0)]:=by kernel_rfl
theorem bLm:aO prog 107=some 1:=by kernel_rfl
theorem bLn:aO prog 108=some 1:=by kernel_rfl
theorem bLo:aO prog 109=some 1:=by kernel_rfl
theorem bLp:aO prog 110=some 1:=by kernel_rfl
theorem bLq:aO prog 111=some 1:=by kernel_rfl
theorem bLr:aO prog 112=some 1:=by kernel_rfl
theorem bLs:aO prog 113=some 1:=by kernel_rfl
theorem bLt:aO prog 114=some 1:=by kernel_rfl
theorem bLu:aO prog 115=some 1:=by kernel_rfl
theorem bLv:aO prog 116=some 1:=by kernel_rfl
theorem bLw:aO prog 117=some 1:=by kernel_rfl
theorem bLx:aO prog 118=some 1:=by kernel_rfl
theorem bLy:aO prog 119=some 1:=by kernel_rfl
theorem bLz:aO prog 120=some 1:=by kernel_rfl
theorem bM0:aO prog 121=some 1:=by kernel_rfl
theorem bM1:aO prog 122=some 1:=by kernel_rfl
theorem bM2:aO prog 123=some 1:=by kernel_rfl
theorem bM3:aO prog 124=some 6:=by kernel_rfl
theorem bM4:aO prog 125=some 6:=by kernel_rfl
theorem bM5:aO prog 126=some 1:=by kernel_rfl
theorem bM6:aO prog 127=some 1:=by kernel_rfl
theorem bM7:aO prog 128=some 1:=by kernel_rfl
theorem bM8:aO prog 129=some 1:=by kernel_rfl
theorem bM9:aO prog 130=some 1:=by kernel_rfl
theorem bMa:aO prog 131=some 1:=by kernel_rfl
theorem bMb:aO prog 132=some 2:=by kernel_rfl
theorem bMc:aO prog 133=some 2:=by kernel_rfl
theorem bMd:aO prog 134=some 1:=by kernel_rfl
theorem bMe:aO prog 135=some 1:=by kernel_rfl
theorem bMf:aO prog 136=some 1:=by kernel_rfl
theorem bMg:aO prog 137=some 1:=by kernel_rfl
theorem bMh:aO prog 138=some 1:=by kernel_rfl
theorem bMi:aO prog 139=some 1:=by kernel_rfl
theorem bMj:aO prog 140=some 1:=by kernel_rfl
theorem bMk:aO prog 141=some 1:=by kernel_rfl
theorem bMl:aO prog 142=some 1:=by kernel_rfl
theorem bMm:aO prog 143=some 1:=by kernel_rfl
theorem bMn:aO prog 144=some 1:=by kernel_rfl
theorem bMo:aO prog 145=some 1:=by kernel_rfl
theorem bMp:aO prog 146=some 1:=by kernel_rfl
theorem bMq:aO prog 147=some 1:=by kernel_rfl
theorem bHp:zeroCells? prog 147=some [.v (Value.pointer none)]:=by kernel_rfl
theorem bMr:aO prog 148=some 1:=by kernel_rfl
theorem bMs:aO prog 149=some 1:=by kernel_rfl
theorem bMt:aO prog 150=some 1:=by kernel_rfl
theorem bMu:aO prog 151=some 1:=by kernel_rfl
theorem bMv:aO prog 152=some 1:=by kernel_rfl
theorem bMw:aO prog 153=some 1:=by kernel_rfl
theorem bMx:aO prog 154=some 1:=by kernel_rfl
theorem bMy:aO prog 155=some 1:=by kernel_rfl
theorem bMz:aO prog 156=some 1:=by kernel_rfl
theorem bN0:aO prog 157=some 1:=by kernel_rfl
theorem bHc:Tryz.prog.info? 157=some Tryz.t157:=by kernel_rfl
theorem bQo:Tryz.t157.size=1:=rfl
theorem bHk:Tryz.t157.bytes=24:=rfl
theorem bHm:Tryz.t157.zero=some (Value.slice none 0 0):=rfl
theorem bN1:aO prog 158=some 1:=by kernel_rfl
theorem bN2:aO prog 159=some 1:=by kernel_rfl
theorem bN3:aO prog 160=some 1:=by kernel_rfl
theorem bN4:aO prog 161=some 1:=by kernel_rfl
theorem bN5:aO prog 162=some 1:=by kernel_rfl
theorem bN6:aO prog 163=some 1:=by kernel_rfl
theorem bN7:aO prog 164=some 1:=by kernel_rfl
theorem bN8:aO prog 165=some 1:=by kernel_rfl
theorem bN9:aO prog 166=some 1:=by kernel_rfl
theorem bNa:aO prog 167=some 1:=by kernel_rfl
theorem bNb:aO prog 168=some 1:=by kernel_rfl
theorem bNc:aO prog 169=some 2:=by kernel_rfl
theorem bNd:aO prog 170=some 2:=by kernel_rfl
theorem bKf:Tryz.prog.info? 170=some Tryz.t170:=by kernel_rfl
theorem bQp:Tryz.t170.size=2:=rfl
theorem bHl:Tryz.t170.bytes=16:=rfl
theorem bQq:Tryz.t170.zero=some (Value.agg #[Value.int IntKind.i64 0,Value.int IntKind.i64 0]):=rfl
theorem bQv:zeroCells? prog 170=some [.v (Value.int IntKind.i64 0),.v (Value.int IntKind.i64 0)]:=by kernel_rfl
theorem bNe:aO prog 171=some 1:=by kernel_rfl
theorem bNf:aO prog 172=some 1:=by kernel_rfl
theorem bNg:aO prog 173=some 1:=by kernel_rfl
theorem bNh:aO prog 174=some 1:=by kernel_rfl
theorem bNi:aO prog 175=some 1:=by kernel_rfl
theorem bNj:aO prog 176=some 1:=by kernel_rfl
theorem bNk:aO prog 177=some 1:=by kernel_rfl
theorem bNl:aO prog 178=some 1:=by kernel_rfl
theorem bNm:aO prog 179=some 1:=by kernel_rfl
theorem bNn:aO prog 180=some 2:=by kernel_rfl
theorem bNo:aO prog 181=some 1:=by kernel_rfl
theorem bNp:aO prog 182=some 1:=by kernel_rfl
theorem bNq:aO prog 183=some 1:=by kernel_rfl
theorem bNr:aO prog 185=some 1:=by kernel_rfl
theorem bNs:aO prog 186=some 1:=by kernel_rfl
theorem bNt:aO prog 187=some 1:=by kernel_rfl
theorem bNu:aO prog 188=some 1:=by kernel_rfl
theorem bNv:aO prog 189=some 1:=by kernel_rfl
theorem bNw:aO prog 190=some 1:=by kernel_rfl
theorem bNx:aO prog 191=some 1:=by kernel_rfl
theorem bNy:aO prog 192=some 1:=by kernel_rfl
theorem bNz:aO prog 193=some 2:=by kernel_rfl
theorem aWw:aO prog 194=some 2:=by kernel_rfl
theorem bQw:zeroCells? prog 194=some [.v (Value.int IntKind.u64 0),.v (Value.int IntKind.i64 0)]:=by kernel_rfl
theorem bO0:aO prog 195=some 1:=by kernel_rfl
theorem bO1:aO prog 196=some 1:=by kernel_rfl
theorem bO2:aO prog 197=some 1:=by kernel_rfl
theorem bO3:aO prog 198=some 1:=by kernel_rfl
theorem bO4:aO prog 199=some 1:=by kernel_rfl
theorem bO5:aO prog 200=some 1:=by kernel_rfl
theorem bO6:aO prog 201=some 1:=by kernel_rfl
theorem bO7:aO prog 202=some 1:=by kernel_rfl
theorem bO8:aO prog 203=some 1:=by kernel_rfl
theorem bO9:aO prog 204=some 1:=by kernel_rfl
theorem bOa:aO prog 205=some 1:=by kernel_rfl
theorem bOb:aO prog 206=some 1:=by kernel_rfl
theorem bOc:aO prog 207=some 1:=by kernel_rfl
theorem bOd:aO prog 208=some 1:=by kernel_rfl
theorem bOe:aO prog 210=some 1:=by kernel_rfl
theorem bOf:aO prog 211=some 1:=by kernel_rfl
theorem bOg:aO prog 212=some 1:=by kernel_rfl
theorem bOh:aO prog 213=some 1:=by kernel_rfl
theorem bOi:aO prog 214=some 3:=by kernel_rfl
theorem bOj:aO prog 215=some 3:=by kernel_rfl
theorem bQx:zeroCells? prog 215=some [.v (Value.int IntKind.i64 0),.v (Value.int IntKind.i64 0),.v (Value.slice none 0 0)]:=by kernel_rfl
theorem bOk:aO prog 216=some 1:=by kernel_rfl
theorem bOl:aO prog 217=some 1:=by kernel_rfl
theorem bOm:aO prog 218=some 1:=by kernel_rfl
theorem bOn:aO prog 219=some 1:=by kernel_rfl
theorem bOo:aO prog 220=some 1:=by kernel_rfl
theorem bOp:aO prog 221=some 1:=by kernel_rfl
theorem bOq:aO prog 222=some 1:=by kernel_rfl
theorem bOr:aO prog 223=some 2:=by kernel_rfl
theorem bOs:aO prog 224=some 1:=by kernel_rfl
theorem bOt:aO prog 225=some 1:=by kernel_rfl
theorem bOu:aO prog 227=some 1:=by kernel_rfl
theorem bOv:aO prog 229=some 1:=by kernel_rfl
theorem bOw:aO prog 231=some 1:=by kernel_rfl
theorem bOx:aO prog 232=some 6:=by kernel_rfl
theorem bOy:aO prog 233=some 6:=by kernel_rfl
theorem bQy:zeroCells? prog 233=some [.v (Value.pointer none),.v (Value.pointer none),.v (Value.int IntKind.u64 0),.v (Value.int IntKind.i64 0),.v (Value.int IntKind.i64 0),.v (Value.int IntKind.i64 0)]:=by kernel_rfl
theorem bOz:aO prog 234=some 1:=by kernel_rfl
theorem bP0:aO prog 235=some 1:=by kernel_rfl
theorem bP1:aO prog 236=some 1:=by kernel_rfl
theorem bP2:aO prog 237=some 1:=by kernel_rfl
theorem bP3:aO prog 243=some 1:=by kernel_rfl
theorem bP4:aO prog 246=some 1:=by kernel_rfl
theorem bP5:aO prog 247=some 1:=by kernel_rfl
theorem bP6:aO prog 248=some 1:=by kernel_rfl
theorem bP7:aO prog 249=some 1:=by kernel_rfl
theorem bP8:aO prog 252=some 1:=by kernel_rfl
theorem bP9:aO prog 253=some 1:=by kernel_rfl
theorem bPa:aO prog 254=some 1:=by kernel_rfl
theorem bPb:aO prog 256=some 1:=by kernel_rfl
theorem bPc:aO prog 257=some 1:=by kernel_rfl
theorem bPd:aO prog 258=some 1:=by kernel_rfl
theorem bPe:aO prog 259=some 1:=by kernel_rfl
theorem bPf:aO prog 260=some 1:=by kernel_rfl
theorem bPg:aO prog 261=some 24:=by kernel_rfl
theorem bPh:aO prog 262=some 1:=by kernel_rfl
theorem bPi:aO prog 263=some 1:=by kernel_rfl
theorem bPj:aO prog 264=some 1:=by kernel_rfl
theorem bPk:aO prog 265=some 1:=by kernel_rfl
theorem bPl:aO prog 266=some 1:=by kernel_rfl
theorem bPm:aO prog 267=some 1:=by kernel_rfl
theorem bPn:aO prog 268=some 1:=by kernel_rfl
theorem bPo:aO prog 269=some 1:=by kernel_rfl
theorem bPp:aO prog 270=some 1:=by kernel_rfl
theorem bPq:aO prog 271=some 1:=by kernel_rfl
theorem bPr:aO prog 272=some 1:=by kernel_rfl
theorem bPs:aO prog 274=some 1:=by kernel_rfl
theorem bPt:aO prog 277=some 1:=by kernel_rfl
theorem bPu:aO prog 284=some 1:=by kernel_rfl
theorem bPv:aO prog 287=some 1:=by kernel_rfl
theorem bPw:aO prog 288=some 1:=by kernel_rfl
theorem bPx:aO prog 289=some 1:=by kernel_rfl
theorem bPy:aO prog 290=some 1:=by kernel_rfl
theorem bPz:aO prog 298=some 20:=by kernel_rfl
theorem bQ0:aO prog 299=some 65:=by kernel_rfl
theorem bQ1:aO prog 302=some 1:=by kernel_rfl
theorem bQ2:aO prog 304=some 1:=by kernel_rfl
theorem bQ3:aO prog 306=some 1:=by kernel_rfl
theorem bQ4:aO prog 307=some 1:=by kernel_rfl
theorem bQ5:aO prog 310=some 1:=by kernel_rfl
theorem bQ6:aO prog 316=some 32:=by kernel_rfl
theorem bQ7:aO prog 317=some 64:=by kernel_rfl
theorem bQ8:aO prog 319=some 4:=by kernel_rfl
theorem bQ9:aO prog 320=some 4:=by kernel_rfl
theorem bQa:aO prog 321=some 0:=by kernel_rfl
theorem bQb:aO prog 322=some 0:=by kernel_rfl
theorem bQc:aO prog 323=some 0:=by kernel_rfl
theorem bQd:aO prog 324=some 1:=by kernel_rfl
theorem bQe:aO prog 325=some 1:=by kernel_rfl
theorem bQf:aO prog 326=some 1:=by kernel_rfl
theorem bQg:aO prog 327=some 1:=by kernel_rfl
theorem bQh:aO prog 328=some 1:=by kernel_rfl
theorem bQi:aO prog 329=some 1:=by kernel_rfl
theorem bQj:aO prog 330=some 11:=by kernel_rfl
theorem bQk:aO prog 331=some 11:=by kernel_rfl
abbrev FbP(k:Nat):Prop:=(Program.funcs prog)[k]?.any (fun fn=>fn.body.isSome&&fn.name != "runtime.NumGoroutine")=true
theorem fbT{k:Nat}{f}(h:(Program.funcs prog)[k]? =some f)(h':(f.body.isSome&&f.name != "runtime.NumGoroutine")=true):FbP k:=by
 show (Program.funcs prog)[k]?.any _=true;rw [h];exact h'
theorem bR4:FbP 32:=fbT func32 (by kernel_rfl)
theorem bK0:FbP 103:=fbT func103 (by kernel_rfl)
theorem bH5:FbP 104:=fbT func104 (by kernel_rfl)
theorem bH6:FbP 105:=fbT func105 (by kernel_rfl)
theorem bK1:FbP 115:=fbT func115 (by kernel_rfl)
theorem bK2:FbP 121:=fbT func121 (by kernel_rfl)
theorem bK3:FbP 127:=fbT func127 (by kernel_rfl)
theorem bK4:FbP 128:=fbT func128 (by kernel_rfl)
theorem bH7:FbP 129:=fbT func129 (by kernel_rfl)
theorem bH8:FbP 153:=fbT func153 (by kernel_rfl)
theorem bBt:FbP 155:=fbT func155 (by kernel_rfl)
theorem bH9:FbP 156:=fbT func156 (by kernel_rfl)
theorem bK5:FbP 157:=fbT func157 (by kernel_rfl)
theorem bK6:FbP 158:=fbT func158 (by kernel_rfl)
theorem bK7:FbP 159:=fbT func159 (by kernel_rfl)
theorem bK8:FbP 160:=fbT func160 (by kernel_rfl)
theorem bK9:FbP 172:=fbT func172 (by kernel_rfl)
theorem aWe:FbP 191:=fbT func191 (by kernel_rfl)
theorem bHa:FbP 192:=fbT func192 (by kernel_rfl)
theorem bKa:FbP 193:=fbT func193 (by kernel_rfl)
theorem bKb:FbP 199:=fbT func199 (by kernel_rfl)
theorem bKc:FbP 218:=fbT func218 (by kernel_rfl)
theorem bKd:FbP 222:=fbT func222 (by kernel_rfl)
theorem bKe:FbP 223:=fbT func223 (by kernel_rfl)
theorem aWf:FbP 236:=fbT func236 (by kernel_rfl)
theorem bHb:FbP 237:=fbT func237 (by kernel_rfl)
theorem mix:Tryz.prog.follows .mixedOrders=true:=by kernel_rfl
@[go_sem] theorem mi3(H:aG)(ρ:Operand→AV)(x:Operand):aX prog H ρ (.makeInterface 3 x)=some (.ifc 3 (ρ x)):=by simp only [aX,underlying3]
@[go_sem] theorem mi4(H:aG)(ρ:Operand→AV)(x:Operand):aX prog H ρ (.makeInterface 4 x)=some (.ifc 4 (ρ x)):=by simp only [aX,underlying4]
@[go_sem] theorem ln9(s:ByteArray):aW prog .len [9] [.v (.string s)]=some (.v (.int .i64 s.size)):=rO underlying9
@[go_sem] theorem mi9(H:aG)(ρ:Operand→AV)(x:Operand):aX prog H ρ (.makeInterface 9 x)=some (.ifc 9 (ρ x)):=by simp only [aX,underlying9]
@[go_sem] theorem bR7(s:ByteArray):aW prog .len [10] [.v (.string s)]=some (.v (.int .i64 s.size)):=rO underlying10
@[go_sem] theorem bR8(s:ByteArray):aW prog .len [11] [.v (.string s)]=some (.v (.int .i64 s.size)):=rO underlying11
theorem bR9(xs:List AV)(n:Nat)(f:Bool):aW prog .len [24] [.sl xs n f]=some (.v (.int .i64 n)):=bT underlying24
theorem bRj(j o n:Nat):aW prog .len [24] [.own j o n]=some (.v (.int .i64 n)):=bN underlying24
theorem bRt(n c:Nat):aW prog .len [24] [.v (.slice none n c)]=some (.v (.int .i64 n)):=bM underlying24
attribute [go_sem] bR9 bRj bRt
@[go_sem] theorem bS5(H:aG)(ρ:Operand→AV)(x:Operand):aX prog H ρ (.makeInterface 24 x)=some (.ifc 24 (ρ x)):=by simp only [aX,underlying24]
theorem bRa(xs:List AV)(n:Nat)(f:Bool):aW prog .len [25] [.sl xs n f]=some (.v (.int .i64 n)):=bT underlying25
theorem bRk(j o n:Nat):aW prog .len [25] [.own j o n]=some (.v (.int .i64 n)):=bN underlying25
theorem bRu(n c:Nat):aW prog .len [25] [.v (.slice none n c)]=some (.v (.int .i64 n)):=bM underlying25
attribute [go_sem] bRa bRk bRu
theorem bRb(xs:List AV)(n:Nat)(f:Bool):aW prog .len [27] [.sl xs n f]=some (.v (.int .i64 n)):=bT underlying27
theorem bRl(j o n:Nat):aW prog .len [27] [.own j o n]=some (.v (.int .i64 n)):=bN underlying27
theorem bRv(n c:Nat):aW prog .len [27] [.v (.slice none n c)]=some (.v (.int .i64 n)):=bM underlying27
attribute [go_sem] bRb bRl bRv
theorem bRc(xs:List AV)(n:Nat)(f:Bool):aW prog .len [28] [.sl xs n f]=some (.v (.int .i64 n)):=bT underlying28
theorem bRm(j o n:Nat):aW prog .len [28] [.own j o n]=some (.v (.int .i64 n)):=bN underlying28
theorem bRw(n c:Nat):aW prog .len [28] [.v (.slice none n c)]=some (.v (.int .i64 n)):=bM underlying28
attribute [go_sem] bRc bRm bRw
theorem bRd(xs:List AV)(n:Nat)(f:Bool):aW prog .len [31] [.sl xs n f]=some (.v (.int .i64 n)):=bT underlying31
theorem bRn(j o n:Nat):aW prog .len [31] [.own j o n]=some (.v (.int .i64 n)):=bN underlying31
theorem bRx(n c:Nat):aW prog .len [31] [.v (.slice none n c)]=some (.v (.int .i64 n)):=bM underlying31
attribute [go_sem] bRd bRn bRx
@[go_sem] theorem bS6(H:aG)(ρ:Operand→AV)(x:Operand):aX prog H ρ (.makeInterface 36 x)=some (.ifc 36 (ρ x)):=by simp only [aX,underlying36]
theorem bRe(xs:List AV)(n:Nat)(f:Bool):aW prog .len [53] [.sl xs n f]=some (.v (.int .i64 n)):=bT underlying53
theorem bRo(j o n:Nat):aW prog .len [53] [.own j o n]=some (.v (.int .i64 n)):=bN underlying53
theorem bRy(n c:Nat):aW prog .len [53] [.v (.slice none n c)]=some (.v (.int .i64 n)):=bM underlying53
attribute [go_sem] bRe bRo bRy
theorem bRf(xs:List AV)(n:Nat)(f:Bool):aW prog .len [56] [.sl xs n f]=some (.v (.int .i64 n)):=bT underlying56
theorem bRp(j o n:Nat):aW prog .len [56] [.own j o n]=some (.v (.int .i64 n)):=bN underlying56
theorem bRz(n c:Nat):aW prog .len [56] [.v (.slice none n c)]=some (.v (.int .i64 n)):=bM underlying56
attribute [go_sem] bRf bRp bRz
theorem bRg(xs:List AV)(n:Nat)(f:Bool):aW prog .len [65] [.sl xs n f]=some (.v (.int .i64 n)):=bT underlying65
theorem bRq(j o n:Nat):aW prog .len [65] [.own j o n]=some (.v (.int .i64 n)):=bN underlying65
theorem bS0(n c:Nat):aW prog .len [65] [.v (.slice none n c)]=some (.v (.int .i64 n)):=bM underlying65
attribute [go_sem] bRg bRq bS0
theorem bRh(xs:List AV)(n:Nat)(f:Bool):aW prog .len [69] [.sl xs n f]=some (.v (.int .i64 n)):=bT underlying69
theorem bRr(j o n:Nat):aW prog .len [69] [.own j o n]=some (.v (.int .i64 n)):=bN underlying69
theorem bS1(n c:Nat):aW prog .len [69] [.v (.slice none n c)]=some (.v (.int .i64 n)):=bM underlying69
attribute [go_sem] bRh bRr bS1
theorem bRi(xs:List AV)(n:Nat)(f:Bool):aW prog .len [91] [.sl xs n f]=some (.v (.int .i64 n)):=bT underlying91
theorem bRs(j o n:Nat):aW prog .len [91] [.own j o n]=some (.v (.int .i64 n)):=bN underlying91
theorem bS2(n c:Nat):aW prog .len [91] [.v (.slice none n c)]=some (.v (.int .i64 n)):=bM underlying91
attribute [go_sem] bRi bRs bS2
theorem bKk(xs:List AV)(n:Nat)(f:Bool):aW prog .len [100] [.sl xs n f]=some (.v (.int .i64 n)):=bT underlying100
theorem bKs(j o n:Nat):aW prog .len [100] [.own j o n]=some (.v (.int .i64 n)):=bN underlying100
theorem bL0(n c:Nat):aW prog .len [100] [.v (.slice none n c)]=some (.v (.int .i64 n)):=bM underlying100
attribute [go_sem] bKk bKs bL0
theorem bKl(xs:List AV)(n:Nat)(f:Bool):aW prog .len [123] [.sl xs n f]=some (.v (.int .i64 n)):=bT underlying123
theorem bKt(j o n:Nat):aW prog .len [123] [.own j o n]=some (.v (.int .i64 n)):=bN underlying123
theorem bL1(n c:Nat):aW prog .len [123] [.v (.slice none n c)]=some (.v (.int .i64 n)):=bM underlying123
attribute [go_sem] bKl bKt bL1
theorem bKm(xs:List AV)(n:Nat)(f:Bool):aW prog .len [157] [.sl xs n f]=some (.v (.int .i64 n)):=bT underlying157
theorem bKu(j o n:Nat):aW prog .len [157] [.own j o n]=some (.v (.int .i64 n)):=bN underlying157
theorem bL2(n c:Nat):aW prog .len [157] [.v (.slice none n c)]=some (.v (.int .i64 n)):=bM underlying157
attribute [go_sem] bKm bKu bL2
@[go_sem] theorem bL8(H:aG)(ρ:Operand→AV)(x:Operand):aX prog H ρ (.makeInterface 157 x)=some (.ifc 157 (ρ x)):=by simp only [aX,underlying157]
theorem bKn(xs:List AV)(n:Nat)(f:Bool):aW prog .len [249] [.sl xs n f]=some (.v (.int .i64 n)):=bT underlying249
theorem bKv(j o n:Nat):aW prog .len [249] [.own j o n]=some (.v (.int .i64 n)):=bN underlying249
theorem bL3(n c:Nat):aW prog .len [249] [.v (.slice none n c)]=some (.v (.int .i64 n)):=bM underlying249
attribute [go_sem] bKn bKv bL3
theorem bKo(xs:List AV)(n:Nat)(f:Bool):aW prog .len [253] [.sl xs n f]=some (.v (.int .i64 n)):=bT underlying253
theorem bKw(j o n:Nat):aW prog .len [253] [.own j o n]=some (.v (.int .i64 n)):=bN underlying253
theorem bL4(n c:Nat):aW prog .len [253] [.v (.slice none n c)]=some (.v (.int .i64 n)):=bM underlying253
attribute [go_sem] bKo bKw bL4
theorem bKp(xs:List AV)(n:Nat)(f:Bool):aW prog .len [267] [.sl xs n f]=some (.v (.int .i64 n)):=bT underlying267
theorem bKx(j o n:Nat):aW prog .len [267] [.own j o n]=some (.v (.int .i64 n)):=bN underlying267
theorem bL5(n c:Nat):aW prog .len [267] [.v (.slice none n c)]=some (.v (.int .i64 n)):=bM underlying267
attribute [go_sem] bKp bKx bL5
theorem bKq(xs:List AV)(n:Nat)(f:Bool):aW prog .len [284] [.sl xs n f]=some (.v (.int .i64 n)):=bT underlying284
theorem bKy(j o n:Nat):aW prog .len [284] [.own j o n]=some (.v (.int .i64 n)):=bN underlying284
theorem bL6(n c:Nat):aW prog .len [284] [.v (.slice none n c)]=some (.v (.int .i64 n)):=bM underlying284
attribute [go_sem] bKq bKy bL6
theorem bKr(xs:List AV)(n:Nat)(f:Bool):aW prog .len [310] [.sl xs n f]=some (.v (.int .i64 n)):=bT underlying310
theorem bKz(j o n:Nat):aW prog .len [310] [.own j o n]=some (.v (.int .i64 n)):=bN underlying310
theorem bL7(n c:Nat):aW prog .len [310] [.v (.slice none n c)]=some (.v (.int .i64 n)):=bM underlying310
attribute [go_sem] bKr bKz bL7
attribute [go_sem] underlying0 sz0 underlying1 sz1 underlying2 sz2 underlying3 sz3 underlying4 sz4 underlying5 sz5 underlying6 sz6 underlying7 sz7 underlying8 sz8 underlying9 sz9 underlying10 bS9 underlying11 bSa underlying12 bSb underlying13 bSc underlying14 bSd underlying15 bSe underlying16 bSf underlying17 bSg underlying18 bSh underlying19 bSi underlying20 bSj underlying21 bSk underlying22 bSl underlying23 bSm underlying24 bSn underlying25 bSo underlying26 bSp underlying27 bSq underlying28 bJ5 underlying29 bSr underlying30 bSs underlying31 bSt underlying32 bSu underlying33 bSv underlying34 bSw underlying35 bSx underlying36 bSy underlying37 bSz underlying38 bT0 underlying39 bT1 underlying40 aK9 underlying41 bT2 underlying42 bT3 underlying43 bT4 underlying44 bT5 underlying45 bT6 underlying46 bT7 underlying47 bT8 underlying48 bT9 underlying49 bTa underlying50 bTb underlying51 bTc underlying52 bTd underlying53 bTe underlying54 bTf underlying55 bTg underlying56 aSw underlying57 bTh underlying58 bTi underlying59 bTj underlying60 bTk underlying61 aKa underlying62 bTl underlying63 bTm underlying64 bTn underlying65 bTo underlying66 bTp underlying67 bTq underlying68 bTr underlying69 bJ6 underlying70 bTs underlying71 bTt underlying72 bTu underlying73 bTv underlying74 bTw underlying75 bTx underlying76 bTy underlying77 bTz underlying78 bU0 underlying79 bU1 underlying80 bU2 underlying81 bU3 underlying82 bU4 underlying83 bU5 underlying84 bU6 underlying85 bU7 underlying86 bU8 underlying87 bU9 underlying88 bUa underlying89 bUb underlying90 bUc underlying91 bUd underlying92 bUe underlying93 bUf underlying94 bGk underlying95 bUg underlying96 bGl underlying97 bUh underlying98 bUi underlying99 bUj underlying100 bLf underlying101 bLg underlying102 bLh underlying103 bLi underlying104 bLj underlying105 bLk underlying106 bLl underlying107 bLm underlying108 bLn underlying109 bLo underlying110 bLp underlying111 bLq underlying112 bLr underlying113 bLs underlying114 bLt underlying115 bLu underlying116 bLv underlying117 bLw underlying118 bLx underlying119 bLy underlying120 bLz underlying121 bM0 underlying122 bM1 underlying123 bM2 underlying124 bM3 underlying125 bM4 underlying126 bM5 underlying127 bM6 underlying128 bM7 underlying129 bM8 underlying130 bM9 underlying131 bMa underlying132 bMb underlying133 bMc underlying134 bMd underlying135 bMe underlying136 bMf underlying137 bMg underlying138 bMh underlying139 bMi underlying140 bMj underlying141 bMk underlying142 bMl underlying143 bMm underlying144 bMn underlying145 bMo underlying146 bMp underlying147 bMq underlying148 bMr underlying149 bMs underlying150 bMt underlying151 bMu underlying152 bMv underlying153 bMw underlying154 bMx underlying155 bMy underlying156 bMz underlying157 bN0 underlying158 bN1 underlying159 bN2 underlying160 bN3 underlying161 bN4 underlying162 bN5 underlying163 bN6 underlying164 bN7 underlying165 bN8 underlying166 bN9 underlying167 bNa underlying168 bNb underlying169 bNc underlying170 bNd underlying171 bNe underlying172 bNf underlying173 bNg underlying174 bNh underlying175 bNi underlying176 bNj underlying177 bNk underlying178 bNl underlying179 bNm underlying180 bNn underlying181 bNo underlying182 bNp underlying183 bNq underlying185 bNr underlying186 bNs underlying187 bNt underlying188 bNu underlying189 bNv underlying190 bNw underlying191 bNx underlying192 bNy underlying193 bNz underlying194 aWw underlying195 bO0 underlying196 bO1 underlying197 bO2 underlying198 bO3 underlying199 bO4 underlying200 bO5 underlying201 bO6 underlying202 bO7 underlying203 bO8 underlying204 bO9 underlying205 bOa underlying206 bOb underlying207 bOc underlying208 bOd underlying210 bOe underlying211 bOf underlying212 bOg underlying213 bOh underlying214 bOi underlying215 bOj underlying216 bOk underlying217 bOl underlying218 bOm underlying219 bOn underlying220 bOo underlying221 bOp underlying222 bOq underlying223 bOr underlying224 bOs underlying225 bOt underlying227 bOu underlying229 bOv underlying231 bOw underlying232 bOx underlying233 bOy underlying234 bOz underlying235 bP0 underlying236 bP1 underlying237 bP2 underlying243 bP3 underlying246 bP4 underlying247 bP5 underlying248 bP6 underlying249 bP7 underlying252 bP8 underlying253 bP9 underlying254 bPa underlying256 bPb underlying257 bPc underlying258 bPd underlying259 bPe underlying260 bPf underlying261 bPg underlying262 bPh underlying263 bPi underlying264 bPj underlying265 bPk underlying266 bPl underlying267 bPm underlying268 bPn underlying269 bPo underlying270 bPp underlying271 bPq underlying272 bPr underlying274 bPs underlying277 bPt underlying284 bPu underlying287 bPv underlying288 bPw underlying289 bPx underlying290 bPy underlying298 bPz underlying299 bQ0 underlying302 bQ1 underlying304 bQ2 underlying306 bQ3 underlying307 bQ4 underlying310 bQ5 underlying316 bQ6 underlying317 bQ7 underlying319 bQ8 underlying320 bQ9 underlying321 bQa underlying322 bQb underlying323 bQc underlying324 bQd underlying325 bQe underlying326 bQf underlying327 bQg underlying328 bQh underlying329 bQi underlying330 bQj underlying331 bQk
end Go.Proofs.YtkdohhmacfoolaaGreatDoor
