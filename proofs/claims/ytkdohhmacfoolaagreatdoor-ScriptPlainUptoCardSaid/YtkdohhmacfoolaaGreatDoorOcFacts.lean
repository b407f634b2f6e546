/- Facts. No condition. -/
import Derived.Test.YtkdohhmacfoolaaGreatDoorRows
import Derived.Test.YtkdohhmacfoolaaGreatDoorOcAmB
set_option linter.unusedSimpArgs false
set_option linter.unusedVariables false
namespace Go.Proofs.YtkdohhmacfoolaaGreatDoor
open Go.Proofs.Tryz Go Go.AM
theorem sz0:aR prog 0=some 1:=by kernel_rfl
theorem sz1:aR prog 1=some 1:=by kernel_rfl
theorem tb1:Tryz.t1.bytes=8:=rfl
theorem sz2:aR prog 2=some 1:=by kernel_rfl
theorem sz3:aR prog 3=some 1:=by kernel_rfl
theorem in3:Tryz.prog.info? 3=some Tryz.t3:=by kernel_rfl
theorem ts3:Tryz.t3.size=1:=rfl
theorem tb3:Tryz.t3.bytes=8:=rfl
theorem tz3:Tryz.t3.zero=some (Value.int IntKind.i64 0):=rfl
theorem zc3:zeroCells? prog 3=some [.v (Value.int IntKind.i64 0)]:=by kernel_rfl
theorem sz4:aR prog 4=some 1:=by kernel_rfl
theorem in4:Tryz.prog.info? 4=some Tryz.t4:=by kernel_rfl
theorem ts4:Tryz.t4.size=1:=rfl
theorem tb4:Tryz.t4.bytes=1:=rfl
theorem tz4:Tryz.t4.zero=some (Value.bool false):=rfl
theorem zc4:zeroCells? prog 4=some [.v (Value.bool false)]:=by kernel_rfl
theorem sz5:aR prog 5=some 1:=by kernel_rfl
theorem zc5:zeroCells? prog 5=some [.v (Value.int IntKind.u8 0)]:=by kernel_rfl
theorem sz6:aR prog 6=some 1:=by kernel_rfl
theorem sz7:aR prog 7=some 4:=by kernel_rfl
theorem sz8:aR prog 8=some 4:=by kernel_rfl
theorem sz9:aR prog 9=some 1:=by kernel_rfl
theorem in9:Tryz.prog.info? 9=some Tryz.t9:=by kernel_rfl
theorem ts9:Tryz.t9.size=1:=rfl
theorem tb9:Tryz.t9.bytes=16:=rfl
theorem tz9:Tryz.t9.zero=some (Value.string { data:= #[] }):=rfl
theorem zc9:zeroCells? prog 9=some [.v (Value.string { data:= #[] })]:=by kernel_rfl
theorem bXl:aR prog 10=some 1:=by kernel_rfl
theorem bXm:aR prog 11=some 1:=by kernel_rfl
theorem bXn:aR prog 12=some 1:=by kernel_rfl
theorem bXo:aR prog 13=some 2:=by kernel_rfl
theorem bXp:aR prog 14=some 2:=by kernel_rfl
theorem bXq:aR prog 15=some 1:=by kernel_rfl
theorem bXr:aR prog 16=some 1:=by kernel_rfl
theorem bXs:aR prog 17=some 1:=by kernel_rfl
theorem bXt:aR prog 18=some 1:=by kernel_rfl
theorem bXu:aR prog 19=some 1:=by kernel_rfl
theorem bXv:aR prog 20=some 1:=by kernel_rfl
theorem bXw:aR prog 21=some 1:=by kernel_rfl
theorem bXx:aR prog 22=some 3:=by kernel_rfl
theorem bXy:aR prog 23=some 3:=by kernel_rfl
theorem cA6:zeroCells? prog 23=some [.v (Value.int IntKind.i64 0),.v (Value.int IntKind.i64 0),.v (Value.int IntKind.i64 0)]:=by kernel_rfl
theorem bXz:aR prog 24=some 1:=by kernel_rfl
theorem bPe:Tryz.prog.info? 24=some Tryz.t24:=by kernel_rfl
theorem cA0:Tryz.t24.size=1:=rfl
theorem bVx:Tryz.t24.bytes=24:=rfl
theorem bW3:Tryz.t24.zero=some (Value.slice none 0 0):=rfl
theorem bY0:aR prog 25=some 1:=by kernel_rfl
theorem bY1:aR prog 26=some 1:=by kernel_rfl
theorem bY2:aR prog 27=some 1:=by kernel_rfl
theorem bNv:aR prog 28=some 1:=by kernel_rfl
theorem bOe:zeroCells? prog 28=some [.v (Value.slice none 0 0)]:=by kernel_rfl
theorem bY3:aR prog 29=some 5:=by kernel_rfl
theorem bY4:aR prog 30=some 5:=by kernel_rfl
theorem cA7:zeroCells? prog 30=some [.v (Value.int IntKind.i64 0),.v (Value.int IntKind.i64 0),.v (Value.int IntKind.i64 0),.v (Value.slice none 0 0),.v (Value.slice none 0 0)]:=by kernel_rfl
theorem bY5:aR prog 31=some 1:=by kernel_rfl
theorem bY6:aR prog 32=some 6:=by kernel_rfl
theorem bY7:aR prog 33=some 6:=by kernel_rfl
theorem cA8:zeroCells? prog 33=some [.v (Value.int IntKind.i64 0),.v (Value.int IntKind.i64 0),.v (Value.int IntKind.i64 0),.v (Value.slice none 0 0),.v (Value.slice none 0 0),.v (Value.slice none 0 0)]:=by kernel_rfl
theorem bY8:aR prog 34=some 2:=by kernel_rfl
theorem bY9:aR prog 35=some 2:=by kernel_rfl
theorem cA9:zeroCells? prog 35=some [.v (Value.slice none 0 0),.v (Value.int IntKind.i64 0)]:=by kernel_rfl
theorem bYa:aR prog 36=some 1:=by kernel_rfl
theorem bPf:Tryz.prog.info? 36=some Tryz.t36:=by kernel_rfl
theorem cA1:Tryz.t36.size=1:=rfl
theorem bVy:Tryz.t36.bytes=8:=rfl
theorem bW4:Tryz.t36.zero=some (Value.int IntKind.i64 0):=rfl
theorem bYb:aR prog 37=some 1:=by kernel_rfl
theorem bYc:aR prog 38=some 1:=by kernel_rfl
theorem bYd:aR prog 39=some 1:=by kernel_rfl
theorem aLo:aR prog 40=some 1:=by kernel_rfl
theorem bMw:Tryz.prog.info? 40=some Tryz.t40:=by kernel_rfl
theorem bO0:Tryz.t40.size=1:=rfl
theorem bDj:Tryz.t40.bytes=8:=rfl
theorem bO4:Tryz.t40.zero=some (Value.int IntKind.u64 0):=rfl
theorem bL4:zeroCells? prog 40=some [.v (Value.int IntKind.u64 0)]:=by kernel_rfl
theorem bYe:aR prog 41=some 4:=by kernel_rfl
theorem bYf:aR prog 42=some 4:=by kernel_rfl
theorem cAa:zeroCells? prog 42=some [.v (Value.int IntKind.i64 0),.v (Value.int IntKind.u64 0),.v (Value.int IntKind.u64 0),.v (Value.string { data:= #[] })]:=by kernel_rfl
theorem bYg:aR prog 43=some 1:=by kernel_rfl
theorem bYh:aR prog 44=some 1:=by kernel_rfl
theorem bYi:aR prog 45=some 1:=by kernel_rfl
theorem bYj:aR prog 46=some 1:=by kernel_rfl
theorem bYk:aR prog 47=some 1:=by kernel_rfl
theorem bYl:aR prog 48=some 1:=by kernel_rfl
theorem bYm:aR prog 49=some 1:=by kernel_rfl
theorem bYn:aR prog 50=some 1:=by kernel_rfl
theorem bYo:aR prog 51=some 1:=by kernel_rfl
theorem bYp:aR prog 52=some 1:=by kernel_rfl
theorem bYq:aR prog 53=some 1:=by kernel_rfl
theorem bYr:aR prog 54=some 1:=by kernel_rfl
theorem bYs:aR prog 55=some 1:=by kernel_rfl
theorem aVd:aR prog 56=some 1:=by kernel_rfl
theorem bWh:Tryz.prog.info? 56=some Tryz.t56:=by kernel_rfl
theorem cA2:Tryz.t56.size=1:=rfl
theorem bZz:Tryz.t56.bytes=24:=rfl
theorem cAb:zeroCells? prog 56=some [.v (Value.slice none 0 0)]:=by kernel_rfl
theorem bYt:aR prog 57=some 1:=by kernel_rfl
theorem bYu:aR prog 58=some 1:=by kernel_rfl
theorem bYv:aR prog 59=some 1:=by kernel_rfl
theorem bYw:aR prog 60=some 3:=by kernel_rfl
theorem aLp:aR prog 61=some 3:=by kernel_rfl
theorem bIy:Tryz.prog.info? 61=some Tryz.t61:=by kernel_rfl
theorem bKz:Tryz.t61.size=3:=rfl
theorem aVh:Tryz.t61.bytes=24:=rfl
theorem bL0:Tryz.t61.zero=some (Value.agg #[Value.int IntKind.i64 0,Value.int IntKind.i64 0,Value.int IntKind.i64 0]):=rfl
theorem aYy:zeroCells? prog 61=some [.v (Value.int IntKind.i64 0),.v (Value.int IntKind.i64 0),.v (Value.int IntKind.i64 0)]:=by kernel_rfl
theorem bYx:aR prog 62=some 1:=by kernel_rfl
theorem bYy:aR prog 63=some 1:=by kernel_rfl
theorem bYz:aR prog 64=some 1:=by kernel_rfl
theorem bZ0:aR prog 65=some 1:=by kernel_rfl
theorem bZ1:aR prog 66=some 1:=by kernel_rfl
theorem bZ2:aR prog 67=some 9:=by kernel_rfl
theorem bZ3:aR prog 68=some 9:=by kernel_rfl
theorem cAc:zeroCells? prog 68=some [.v (Value.int IntKind.i64 0),.v (Value.int IntKind.i64 0),.v (Value.int IntKind.i64 0),.v (Value.slice none 0 0),.v (Value.slice none 0 0),.v (Value.slice none 0 0),.v (Value.slice none 0 0),.v (Value.int IntKind.i64 0),.v (Value.bool false)]:=by kernel_rfl
theorem bNw:aR prog 69=some 1:=by kernel_rfl
theorem bMx:Tryz.prog.info? 69=some Tryz.t69:=by kernel_rfl
theorem bO1:Tryz.t69.size=1:=rfl
theorem bDk:Tryz.t69.bytes=24:=rfl
theorem bO5:Tryz.t69.zero=some (Value.slice none 0 0):=rfl
theorem bOf:zeroCells? prog 69=some [.v (Value.slice none 0 0)]:=by kernel_rfl
theorem bZ4:aR prog 70=some 1:=by kernel_rfl
theorem bZ5:aR prog 71=some 1:=by kernel_rfl
theorem bZ6:aR prog 72=some 1:=by kernel_rfl
theorem bZ7:aR prog 73=some 1:=by kernel_rfl
theorem bZ8:aR prog 74=some 1:=by kernel_rfl
theorem bZ9:aR prog 75=some 1:=by kernel_rfl
theorem bZa:aR prog 76=some 1:=by kernel_rfl
theorem bZb:aR prog 77=some 1:=by kernel_rfl
theorem bZc:aR prog 78=some 1:=by kernel_rfl
theorem bZd:aR prog 79=some 1:=by kernel_rfl
theorem bZe:aR prog 80=some 1:=by kernel_rfl
theorem bZf:aR prog 81=some 1:=by kernel_rfl
theorem bZg:aR prog 82=some 1:=by kernel_rfl
theorem bZh:aR prog 83=some 1:=by kernel_rfl
theorem bZi:aR prog 84=some 1:=by kernel_rfl
theorem bZj:aR prog 85=some 1:=by kernel_rfl
theorem bZk:aR prog 86=some 1:=by kernel_rfl
theorem bZl:aR prog 87=some 1:=by kernel_rfl
theorem bZm:aR prog 88=some 1:=by kernel_rfl
theorem bZn:aR prog 89=some 1:=by kernel_rfl
theorem bZo:aR prog 90=some 1:=by kernel_rfl
theorem bZp:aR prog 91=some 1:=by kernel_rfl
theorem bZq:aR prog 92=some 1:=by kernel_rfl
theorem bZr:aR prog 93=some 2:=by kernel_rfl
theorem bKu:aR prog 94=some 2:=by kernel_rfl
theorem bMy:Tryz.prog.info? 94=some Tryz.t94:=by kernel_rfl
theorem bO2:Tryz.t94.size=2:=rfl
theorem bDl:Tryz.t94.bytes=16:=rfl
theorem bO6:Tryz.t94.zero=some (Value.agg #[Value.int IntKind.u64 0,Value.int IntKind.u64 0]):=rfl
theorem bL5:zeroCells? prog 94=some [.v (Value.int IntKind.u64 0),.v (Value.int IntKind.u64 0)]:=by kernel_rfl
theorem bZs:aR prog 95=some 2:=by kernel_rfl
theorem bKv:aR prog 96=some 2:=by kernel_rfl
theorem bMz:Tryz.prog.info? 96=some Tryz.t96:=by kernel_rfl
theorem bO3:Tryz.t96.size=2:=rfl
theorem bDm:Tryz.t96.bytes=16:=rfl
theorem bO7:Tryz.t96.zero=some (Value.agg #[Value.bool false,Value.int IntKind.u64 0]):=rfl
theorem bL6:zeroCells? prog 96=some [.v (Value.bool false),.v (Value.int IntKind.u64 0)]:=by kernel_rfl
theorem bZt:aR prog 97=some 1:=by kernel_rfl
theorem bZu:aR prog 98=some 1:=by kernel_rfl
theorem bZv:aR prog 99=some 1:=by kernel_rfl
theorem bQe:aR prog 100=some 1:=by kernel_rfl
theorem bQf:aR prog 101=some 1:=by kernel_rfl
theorem bQg:aR prog 102=some 1:=by kernel_rfl
theorem bQh:aR prog 103=some 1:=by kernel_rfl
theorem bQi:aR prog 104=some 1:=by kernel_rfl
theorem bQj:aR prog 105=some 3:=by kernel_rfl
theorem bQk:aR prog 106=some 3:=by kernel_rfl
theorem bQl:aR prog 107=some 1:=by kernel_rfl
theorem bQm:aR prog 108=some 1:=by kernel_rfl
theorem bQn:aR prog 109=some 1:=by kernel_rfl
theorem bQo:aR prog 110=some 1:=by kernel_rfl
theorem bQp:aR prog 111=some 1:=by kernel_rfl
theorem bQq:aR prog 112=some 1:=by kernel_rfl
theorem bQr:aR prog 113=some 1:=by kernel_rfl
theorem bQs:aR prog 114=some 1:=by kernel_rfl
theorem bQt:aR prog 115=some 1:=by kernel_rfl
theorem bQu:aR prog 116=some 1:=by kernel_rfl
theorem bQv:aR prog 117=some 1:=by kernel_rfl
theorem bQw:aR prog 118=some 1:=by kernel_rfl
theorem bQx:aR prog 119=some 1:=by kernel_rfl
theorem bQy:aR prog 120=some 1:=by kernel_rfl
theorem bQz:aR prog 121=some 1:=by kernel_rfl
theorem bR0:aR prog 122=some 1:=by kernel_rfl
theorem bR1:aR prog 123=some 1:=by kernel_rfl
theorem bR2:aR prog 124=some 6:=by kernel_rfl
theorem bR3:aR prog 125=some 6:=by kernel_rfl
theorem bR4:aR prog 126=some 1:=by kernel_rfl
theorem bR5:aR prog 127=some 1:=by kernel_rfl
theorem bR6:aR prog 128=some 1:=by kernel_rfl
theorem bR7:aR prog 129=some 1:=by kernel_rfl
theorem bR8:aR prog 130=some 1:=by kernel_rfl
theorem bR9:aR prog 131=some 1:=by kernel_rfl
theorem bRa:aR prog 132=some 2:=by kernel_rfl
theorem bRb:aR prog 133=some 2:=by kernel_rfl
theorem bRc:aR prog 134=some 1:=by kernel_rfl
theorem bRd:aR prog 135=some 1:=by kernel_rfl
theorem bRe:aR prog 136=some 1:=by kernel_rfl
theorem bRf:aR prog 137=some 1:=by kernel_rfl
theorem bRg:aR prog 138=some 1:=by kernel_rfl
theorem bRh:aR prog 139=some 1:=by kernel_rfl
theorem bRi:aR prog 140=some 1:=by kernel_rfl
theorem bRj:aR prog 141=some 1:=by kernel_rfl
theorem bRk:aR prog 142=some 1:=by kernel_rfl
theorem bRl:aR prog 143=some 1:=by kernel_rfl
theorem bRm:aR prog 144=some 1:=by kernel_rfl
theorem bRn:aR prog 145=some 1:=by kernel_rfl
theorem bRo:aR prog 146=some 1:=by kernel_rfl
theorem bRp:aR prog 147=some 1:=by kernel_rfl
theorem bM7:zeroCells? prog 147=some [.v (Value.pointer none)]:=by kernel_rfl
theorem bRq:aR prog 148=some 1:=by kernel_rfl
theorem bRr:aR prog 149=some 1:=by kernel_rfl
theorem bRs:aR prog 150=some 1:=by kernel_rfl
theorem bRt:aR prog 151=some 1:=by kernel_rfl
theorem bRu:aR prog 152=some 1:=by kernel_rfl
theorem bRv:aR prog 153=some 1:=by kernel_rfl
theorem bRw:aR prog 154=some 1:=by kernel_rfl
theorem bRx:aR prog 155=some 1:=by kernel_rfl
theorem bRy:aR prog 156=some 1:=by kernel_rfl
theorem bRz:aR prog 157=some 1:=by kernel_rfl
theorem bLq:Tryz.prog.info? 157=some Tryz.t157:=by kernel_rfl
theorem bW0:Tryz.t157.size=1:=rfl
theorem bLz:Tryz.t157.bytes=24:=rfl
theorem bM1:Tryz.t157.zero=some (Value.slice none 0 0):=rfl
theorem bS0:aR prog 158=some 1:=by kernel_rfl
theorem bS1:aR prog 159=some 1:=by kernel_rfl
theorem bS2:aR prog 160=some 1:=by kernel_rfl
theorem bS3:aR prog 161=some 1:=by kernel_rfl
theorem bS4:aR prog 162=some 1:=by kernel_rfl
theorem bS5:aR prog 163=some 1:=by kernel_rfl
theorem bS6:aR prog 164=some 1:=by kernel_rfl
theorem bS7:aR prog 165=some 1:=by kernel_rfl
theorem bS8:aR prog 166=some 1:=by kernel_rfl
theorem bS9:aR prog 167=some 1:=by kernel_rfl
theorem bSa:aR prog 168=some 1:=by kernel_rfl
theorem bSb:aR prog 169=some 2:=by kernel_rfl
theorem bSc:aR prog 170=some 2:=by kernel_rfl
theorem bSd:aR prog 171=some 1:=by kernel_rfl
theorem bSe:aR prog 172=some 1:=by kernel_rfl
theorem bSf:aR prog 173=some 1:=by kernel_rfl
theorem bSg:aR prog 174=some 1:=by kernel_rfl
theorem bSh:aR prog 175=some 1:=by kernel_rfl
theorem bSi:aR prog 176=some 1:=by kernel_rfl
theorem bSj:aR prog 177=some 1:=by kernel_rfl
theorem bSk:aR prog 178=some 1:=by kernel_rfl
theorem bSl:aR prog 179=some 1:=by kernel_rfl
theorem aIv:aR prog 180=some 2:=by kernel_rfl
theorem bPd:Tryz.prog.info? 180=some Tryz.t180:=by kernel_rfl
theorem bW1:Tryz.t180.size=2:=rfl
theorem bM0:Tryz.t180.bytes=16:=rfl
theorem bW2:Tryz.t180.zero=some (Value.agg #[Value.int IntKind.u64 0,Value.int IntKind.u64 0]):=rfl
theorem bW6:zeroCells? prog 180=some [.v (Value.int IntKind.u64 0),.v (Value.int IntKind.u64 0)]:=by kernel_rfl
theorem bSm:aR prog 181=some 1:=by kernel_rfl
theorem bSn:aR prog 182=some 1:=by kernel_rfl
theorem bSo:aR prog 183=some 1:=by kernel_rfl
theorem bSp:aR prog 185=some 1:=by kernel_rfl
theorem bSq:aR prog 186=some 1:=by kernel_rfl
theorem bSr:aR prog 187=some 1:=by kernel_rfl
theorem bSs:aR prog 188=some 1:=by kernel_rfl
theorem bSt:aR prog 189=some 1:=by kernel_rfl
theorem bSu:aR prog 190=some 1:=by kernel_rfl
theorem bSv:aR prog 191=some 1:=by kernel_rfl
theorem bSw:aR prog 192=some 1:=by kernel_rfl
theorem bSx:aR prog 193=some 2:=by kernel_rfl
theorem aZw:aR prog 194=some 2:=by kernel_rfl
theorem bW7:zeroCells? prog 194=some [.v (Value.int IntKind.u64 0),.v (Value.int IntKind.i64 0)]:=by kernel_rfl
theorem bSy:aR prog 195=some 1:=by kernel_rfl
theorem bSz:aR prog 196=some 1:=by kernel_rfl
theorem bT0:aR prog 197=some 1:=by kernel_rfl
theorem bT1:aR prog 198=some 1:=by kernel_rfl
theorem bT2:aR prog 199=some 1:=by kernel_rfl
theorem bT3:aR prog 200=some 1:=by kernel_rfl
theorem bT4:aR prog 201=some 1:=by kernel_rfl
theorem bT5:aR prog 202=some 1:=by kernel_rfl
theorem bT6:aR prog 203=some 1:=by kernel_rfl
theorem bT7:aR prog 204=some 1:=by kernel_rfl
theorem bT8:aR prog 205=some 1:=by kernel_rfl
theorem bT9:aR prog 206=some 1:=by kernel_rfl
theorem bTa:aR prog 207=some 1:=by kernel_rfl
theorem bTb:aR prog 208=some 1:=by kernel_rfl
theorem bTc:aR prog 209=some 1:=by kernel_rfl
theorem bTd:aR prog 210=some 1:=by kernel_rfl
theorem bTe:aR prog 211=some 1:=by kernel_rfl
theorem bTf:aR prog 212=some 1:=by kernel_rfl
theorem bTg:aR prog 213=some 1:=by kernel_rfl
theorem bTh:aR prog 214=some 3:=by kernel_rfl
theorem bTi:aR prog 215=some 3:=by kernel_rfl
theorem bW8:zeroCells? prog 215=some [.v (Value.int IntKind.i64 0),.v (Value.int IntKind.i64 0),.v (Value.slice none 0 0)]:=by kernel_rfl
theorem bTj:aR prog 216=some 1:=by kernel_rfl
theorem bTk:aR prog 217=some 1:=by kernel_rfl
theorem bTl:aR prog 218=some 1:=by kernel_rfl
theorem bTm:aR prog 219=some 1:=by kernel_rfl
theorem bTn:aR prog 220=some 1:=by kernel_rfl
theorem bTo:aR prog 221=some 1:=by kernel_rfl
theorem bTp:aR prog 222=some 1:=by kernel_rfl
theorem bTq:aR prog 223=some 2:=by kernel_rfl
theorem bTr:aR prog 224=some 1:=by kernel_rfl
theorem bTs:aR prog 225=some 1:=by kernel_rfl
theorem bTt:aR prog 227=some 1:=by kernel_rfl
theorem bTu:aR prog 229=some 1:=by kernel_rfl
theorem bTv:aR prog 231=some 1:=by kernel_rfl
theorem bTw:aR prog 232=some 6:=by kernel_rfl
theorem bTx:aR prog 233=some 6:=by kernel_rfl
theorem bW9:zeroCells? prog 233=some [.v (Value.pointer none),.v (Value.pointer none),.v (Value.int IntKind.u64 0),.v (Value.int IntKind.i64 0),.v (Value.int IntKind.i64 0),.v (Value.int IntKind.i64 0)]:=by kernel_rfl
theorem bTy:aR prog 234=some 1:=by kernel_rfl
theorem bTz:aR prog 235=some 1:=by kernel_rfl
theorem bU0:aR prog 236=some 1:=by kernel_rfl
theorem bU1:aR prog 237=some 1:=by kernel_rfl
theorem bU2:aR prog 243=some 1:=by kernel_rfl
theorem bU3:aR prog 246=some 1:=by kernel_rfl
theorem bU4:aR prog 247=some 1:=by kernel_rfl
theorem bU5:aR prog 248=some 1:=by kernel_rfl
theorem bU6:aR prog 249=some 1:=by kernel_rfl
theorem bU7:aR prog 252=some 1:=by kernel_rfl
theorem bU8:aR prog 253=some 1:=by kernel_rfl
theorem bU9:aR prog 254=some 1:=by kernel_rfl
theorem bUa:aR prog 256=some 1:=by kernel_rfl
theorem bUb:aR prog 257=some 1:=by kernel_rfl
theorem bUc:aR prog 258=some 1:=by kernel_rfl
theorem bUd:aR prog 259=some 1:=by kernel_rfl
theorem bUe:aR prog 260=some 1:=by kernel_rfl
theorem bUf:aR prog 261=some 24:=by kernel_rfl
theorem bUg:aR prog 262=some 1:=by kernel_rfl
theorem bUh:aR prog 263=some 1:=by kernel_rfl
theorem bUi:aR prog 264=some 1:=by kernel_rfl
theorem bUj:aR prog 265=some 1:=by kernel_rfl
theorem bUk:aR prog 266=some 1:=by kernel_rfl
theorem bUl:aR prog 267=some 1:=by kernel_rfl
theorem bUm:aR prog 268=some 1:=by kernel_rfl
theorem bUn:aR prog 269=some 1:=by kernel_rfl
theorem bUo:aR prog 270=some 1:=by kernel_rfl
theorem bUp:aR prog 271=some 1:=by kernel_rfl
theorem bUq:aR prog 272=some 1:=by kernel_rfl
theorem bUr:aR prog 274=some 1:=by kernel_rfl
theorem bUs:aR prog 277=some 1:=by kernel_rfl
theorem bUt:aR prog 281=some 1:=by kernel_rfl
theorem bUu:aR prog 282=some 1:=by kernel_rfl
theorem bUv:aR prog 283=some 1:=by kernel_rfl
theorem bUw:aR prog 284=some 1:=by kernel_rfl
theorem bUx:aR prog 285=some 1:=by kernel_rfl
theorem bUy:aR prog 286=some 1:=by kernel_rfl
theorem bUz:aR prog 287=some 1:=by kernel_rfl
theorem bV0:aR prog 288=some 1:=by kernel_rfl
theorem bV1:aR prog 289=some 1:=by kernel_rfl
theorem bV2:aR prog 290=some 1:=by kernel_rfl
theorem bV3:aR prog 291=some 1:=by kernel_rfl
theorem bV4:aR prog 292=some 1:=by kernel_rfl
theorem bV5:aR prog 293=some 1:=by kernel_rfl
theorem bV6:aR prog 294=some 1:=by kernel_rfl
theorem bV7:aR prog 296=some 1:=by kernel_rfl
theorem bV8:aR prog 297=some 1:=by kernel_rfl
theorem bV9:aR prog 298=some 20:=by kernel_rfl
theorem bVa:aR prog 299=some 65:=by kernel_rfl
theorem bVb:aR prog 301=some 1:=by kernel_rfl
theorem bVc:aR prog 302=some 1:=by kernel_rfl
theorem bVd:aR prog 303=some 1:=by kernel_rfl
theorem bVe:aR prog 304=some 1:=by kernel_rfl
theorem bVf:aR prog 306=some 1:=by kernel_rfl
theorem bVg:aR prog 307=some 1:=by kernel_rfl
theorem bVh:aR prog 310=some 1:=by kernel_rfl
theorem bVi:aR prog 316=some 32:=by kernel_rfl
theorem bVj:aR prog 317=some 64:=by kernel_rfl
theorem bVk:aR prog 319=some 4:=by kernel_rfl
theorem bVl:aR prog 320=some 4:=by kernel_rfl
theorem bVm:aR prog 321=some 0:=by kernel_rfl
theorem bVn:aR prog 322=some 0:=by kernel_rfl
theorem bVo:aR prog 323=some 0:=by kernel_rfl
theorem bVp:aR prog 324=some 1:=by kernel_rfl
theorem bVq:aR prog 325=some 1:=by kernel_rfl
theorem bVr:aR prog 326=some 1:=by kernel_rfl
theorem bVs:aR prog 327=some 1:=by kernel_rfl
theorem bVt:aR prog 328=some 1:=by kernel_rfl
theorem bVu:aR prog 329=some 1:=by kernel_rfl
theorem bVv:aR prog 330=some 11:=by kernel_rfl
theorem bVw:aR prog 331=some 11:=by kernel_rfl
abbrev FbP(k:Nat):Prop:=(Program.funcs prog)[k]?.any (fun fn=>fn.body.isSome&&fn.name != "runtime.NumGoroutine")=true
theorem fbT{k:Nat}{f}(h:(Program.funcs prog)[k]? =some f)(h':(f.body.isSome&&f.name != "runtime.NumGoroutine")=true):FbP k:=by
 show (Program.funcs prog)[k]?.any _=true;rw [h];exact h'
theorem bWf:FbP 32:=fbT func32 (by kernel_rfl)
theorem bOu:FbP 103:=fbT func103 (by kernel_rfl)
theorem bLh:FbP 104:=fbT func104 (by kernel_rfl)
theorem bLi:FbP 105:=fbT func105 (by kernel_rfl)
theorem bLj:FbP 107:=fbT func107 (by kernel_rfl)
theorem bOv:FbP 115:=fbT func115 (by kernel_rfl)
theorem bOw:FbP 121:=fbT func121 (by kernel_rfl)
theorem bOx:FbP 123:=fbT func123 (by kernel_rfl)
theorem bOy:FbP 124:=fbT func124 (by kernel_rfl)
theorem bOz:FbP 125:=fbT func125 (by kernel_rfl)
theorem bP0:FbP 127:=fbT func127 (by kernel_rfl)
theorem bP1:FbP 128:=fbT func128 (by kernel_rfl)
theorem bLk:FbP 129:=fbT func129 (by kernel_rfl)
theorem bLl:FbP 153:=fbT func153 (by kernel_rfl)
theorem bFa:FbP 155:=fbT func155 (by kernel_rfl)
theorem bLm:FbP 156:=fbT func156 (by kernel_rfl)
theorem bP2:FbP 157:=fbT func157 (by kernel_rfl)
theorem bP3:FbP 158:=fbT func158 (by kernel_rfl)
theorem bP4:FbP 159:=fbT func159 (by kernel_rfl)
theorem bLn:FbP 160:=fbT func160 (by kernel_rfl)
theorem bP5:FbP 161:=fbT func161 (by kernel_rfl)
theorem bP6:FbP 172:=fbT func172 (by kernel_rfl)
theorem aZd:FbP 191:=fbT func191 (by kernel_rfl)
theorem bLo:FbP 192:=fbT func192 (by kernel_rfl)
theorem bP7:FbP 193:=fbT func193 (by kernel_rfl)
theorem bP8:FbP 199:=fbT func199 (by kernel_rfl)
theorem bP9:FbP 204:=fbT func204 (by kernel_rfl)
theorem bPa:FbP 218:=fbT func218 (by kernel_rfl)
theorem bPb:FbP 222:=fbT func222 (by kernel_rfl)
theorem bPc:FbP 223:=fbT func223 (by kernel_rfl)
theorem aZe:FbP 236:=fbT func236 (by kernel_rfl)
theorem bLp:FbP 237:=fbT func237 (by kernel_rfl)
theorem mix:Tryz.prog.follows .mixedOrders=true:=by kernel_rfl
@[go_sem] theorem mi3(H:aG)(ρ:Operand→AV)(x:Operand):bE prog H ρ (.makeInterface 3 x)=some (.ifc 3 (ρ x)):=by simp only [bE,underlying3]
@[go_sem] theorem mi4(H:aG)(ρ:Operand→AV)(x:Operand):bE prog H ρ (.makeInterface 4 x)=some (.ifc 4 (ρ x)):=by simp only [bE,underlying4]
@[go_sem] theorem ln9(s:ByteArray):bC prog .len [9] [.v (.string s)]=some (.v (.int .i64 s.size)):=tO underlying9
@[go_sem] theorem mi9(H:aG)(ρ:Operand→AV)(x:Operand):bE prog H ρ (.makeInterface 9 x)=some (.ifc 9 (ρ x)):=by simp only [bE,underlying9]
@[go_sem] theorem bWj(s:ByteArray):bC prog .len [10] [.v (.string s)]=some (.v (.int .i64 s.size)):=tO underlying10
@[go_sem] theorem bWk(s:ByteArray):bC prog .len [11] [.v (.string s)]=some (.v (.int .i64 s.size)):=tO underlying11
theorem bWl(xs:List AV)(n:Nat)(f:Bool):bC prog .len [24] [.sl xs n f]=some (.v (.int .i64 n)):=cG underlying24
theorem bWv(j o n:Nat):bC prog .len [24] [.own j o n]=some (.v (.int .i64 n)):=bX underlying24
theorem bX5(n c:Nat):bC prog .len [24] [.v (.slice none n c)]=some (.v (.int .i64 n)):=bW underlying24
attribute [go_sem] bWl bWv bX5
@[go_sem] theorem bXh(H:aG)(ρ:Operand→AV)(x:Operand):bE prog H ρ (.makeInterface 24 x)=some (.ifc 24 (ρ x)):=by simp only [bE,underlying24]
theorem bWm(xs:List AV)(n:Nat)(f:Bool):bC prog .len [25] [.sl xs n f]=some (.v (.int .i64 n)):=cG underlying25
theorem bWw(j o n:Nat):bC prog .len [25] [.own j o n]=some (.v (.int .i64 n)):=bX underlying25
theorem bX6(n c:Nat):bC prog .len [25] [.v (.slice none n c)]=some (.v (.int .i64 n)):=bW underlying25
attribute [go_sem] bWm bWw bX6
theorem bWn(xs:List AV)(n:Nat)(f:Bool):bC prog .len [27] [.sl xs n f]=some (.v (.int .i64 n)):=cG underlying27
theorem bWx(j o n:Nat):bC prog .len [27] [.own j o n]=some (.v (.int .i64 n)):=bX underlying27
theorem bX7(n c:Nat):bC prog .len [27] [.v (.slice none n c)]=some (.v (.int .i64 n)):=bW underlying27
attribute [go_sem] bWn bWx bX7
theorem bWo(xs:List AV)(n:Nat)(f:Bool):bC prog .len [28] [.sl xs n f]=some (.v (.int .i64 n)):=cG underlying28
theorem bWy(j o n:Nat):bC prog .len [28] [.own j o n]=some (.v (.int .i64 n)):=bX underlying28
theorem bX8(n c:Nat):bC prog .len [28] [.v (.slice none n c)]=some (.v (.int .i64 n)):=bW underlying28
attribute [go_sem] bWo bWy bX8
theorem bWp(xs:List AV)(n:Nat)(f:Bool):bC prog .len [31] [.sl xs n f]=some (.v (.int .i64 n)):=cG underlying31
theorem bWz(j o n:Nat):bC prog .len [31] [.own j o n]=some (.v (.int .i64 n)):=bX underlying31
theorem bX9(n c:Nat):bC prog .len [31] [.v (.slice none n c)]=some (.v (.int .i64 n)):=bW underlying31
attribute [go_sem] bWp bWz bX9
@[go_sem] theorem bXi(H:aG)(ρ:Operand→AV)(x:Operand):bE prog H ρ (.makeInterface 36 x)=some (.ifc 36 (ρ x)):=by simp only [bE,underlying36]
theorem bWq(xs:List AV)(n:Nat)(f:Bool):bC prog .len [53] [.sl xs n f]=some (.v (.int .i64 n)):=cG underlying53
theorem bX0(j o n:Nat):bC prog .len [53] [.own j o n]=some (.v (.int .i64 n)):=bX underlying53
theorem bXa(n c:Nat):bC prog .len [53] [.v (.slice none n c)]=some (.v (.int .i64 n)):=bW underlying53
attribute [go_sem] bWq bX0 bXa
theorem bWr(xs:List AV)(n:Nat)(f:Bool):bC prog .len [56] [.sl xs n f]=some (.v (.int .i64 n)):=cG underlying56
theorem bX1(j o n:Nat):bC prog .len [56] [.own j o n]=some (.v (.int .i64 n)):=bX underlying56
theorem bXb(n c:Nat):bC prog .len [56] [.v (.slice none n c)]=some (.v (.int .i64 n)):=bW underlying56
attribute [go_sem] bWr bX1 bXb
theorem bWs(xs:List AV)(n:Nat)(f:Bool):bC prog .len [65] [.sl xs n f]=some (.v (.int .i64 n)):=cG underlying65
theorem bX2(j o n:Nat):bC prog .len [65] [.own j o n]=some (.v (.int .i64 n)):=bX underlying65
theorem bXc(n c:Nat):bC prog .len [65] [.v (.slice none n c)]=some (.v (.int .i64 n)):=bW underlying65
attribute [go_sem] bWs bX2 bXc
theorem bWt(xs:List AV)(n:Nat)(f:Bool):bC prog .len [69] [.sl xs n f]=some (.v (.int .i64 n)):=cG underlying69
theorem bX3(j o n:Nat):bC prog .len [69] [.own j o n]=some (.v (.int .i64 n)):=bX underlying69
theorem bXd(n c:Nat):bC prog .len [69] [.v (.slice none n c)]=some (.v (.int .i64 n)):=bW underlying69
attribute [go_sem] bWt bX3 bXd
theorem bWu(xs:List AV)(n:Nat)(f:Bool):bC prog .len [91] [.sl xs n f]=some (.v (.int .i64 n)):=cG underlying91
theorem bX4(j o n:Nat):bC prog .len [91] [.own j o n]=some (.v (.int .i64 n)):=bX underlying91
theorem bXe(n c:Nat):bC prog .len [91] [.v (.slice none n c)]=some (.v (.int .i64 n)):=bW underlying91
attribute [go_sem] bWu bX4 bXe
theorem bPi(xs:List AV)(n:Nat)(f:Bool):bC prog .len [100] [.sl xs n f]=some (.v (.int .i64 n)):=cG underlying100
theorem bPq(j o n:Nat):bC prog .len [100] [.own j o n]=some (.v (.int .i64 n)):=bX underlying100
theorem bPy(n c:Nat):bC prog .len [100] [.v (.slice none n c)]=some (.v (.int .i64 n)):=bW underlying100
attribute [go_sem] bPi bPq bPy
theorem bPj(xs:List AV)(n:Nat)(f:Bool):bC prog .len [123] [.sl xs n f]=some (.v (.int .i64 n)):=cG underlying123
theorem bPr(j o n:Nat):bC prog .len [123] [.own j o n]=some (.v (.int .i64 n)):=bX underlying123
theorem bPz(n c:Nat):bC prog .len [123] [.v (.slice none n c)]=some (.v (.int .i64 n)):=bW underlying123
attribute [go_sem] bPj bPr bPz
theorem bPk(xs:List AV)(n:Nat)(f:Bool):bC prog .len [157] [.sl xs n f]=some (.v (.int .i64 n)):=cG underlying157
theorem bPs(j o n:Nat):bC prog .len [157] [.own j o n]=some (.v (.int .i64 n)):=bX underlying157
theorem bQ0(n c:Nat):bC prog .len [157] [.v (.slice none n c)]=some (.v (.int .i64 n)):=bW underlying157
attribute [go_sem] bPk bPs bQ0
@[go_sem] theorem bQ6(H:aG)(ρ:Operand→AV)(x:Operand):bE prog H ρ (.makeInterface 157 x)=some (.ifc 157 (ρ x)):=by simp only [bE,underlying157]
theorem bPl(xs:List AV)(n:Nat)(f:Bool):bC prog .len [249] [.sl xs n f]=some (.v (.int .i64 n)):=cG underlying249
theorem bPt(j o n:Nat):bC prog .len [249] [.own j o n]=some (.v (.int .i64 n)):=bX underlying249
theorem bQ1(n c:Nat):bC prog .len [249] [.v (.slice none n c)]=some (.v (.int .i64 n)):=bW underlying249
attribute [go_sem] bPl bPt bQ1
theorem bPm(xs:List AV)(n:Nat)(f:Bool):bC prog .len [253] [.sl xs n f]=some (.v (.int .i64 n)):=cG underlying253
theorem bPu(j o n:Nat):bC prog .len [253] [.own j o n]=some (.v (.int .i64 n)):=bX underlying253
theorem bQ2(n c:Nat):bC prog .len [253] [.v (.slice none n c)]=some (.v (.int .i64 n)):=bW underlying253
attribute [go_sem] bPm bPu bQ2
theorem bPn(xs:List AV)(n:Nat)(f:Bool):bC prog .len [267] [.sl xs n f]=some (.v (.int .i64 n)):=cG underlying267
theorem bPv(j o n:Nat):bC prog .len [267] [.own j o n]=some (.v (.int .i64 n)):=bX underlying267
theorem bQ3(n c:Nat):bC prog .len [267] [.v (.slice none n c)]=some (.v (.int .i64 n)):=bW underlying267
attribute [go_sem] bPn bPv bQ3
theorem bPo(xs:List AV)(n:Nat)(f:Bool):bC prog .len [284] [.sl xs n f]=some (.v (.int .i64 n)):=cG underlying284
theorem bPw(j o n:Nat):bC prog .len [284] [.own j o n]=some (.v (.int .i64 n)):=bX underlying284
theorem bQ4(n c:Nat):bC prog .len [284] [.v (.slice none n c)]=some (.v (.int .i64 n)):=bW underlying284
attribute [go_sem] bPo bPw bQ4
theorem bPp(xs:List AV)(n:Nat)(f:Bool):bC prog .len [310] [.sl xs n f]=some (.v (.int .i64 n)):=cG underlying310
theorem bPx(j o n:Nat):bC prog .len [310] [.own j o n]=some (.v (.int .i64 n)):=bX underlying310
theorem bQ5(n c:Nat):bC prog .len [310] [.v (.slice none n c)]=some (.v (.int .i64 n)):=bW underlying310
attribute [go_sem] bPp bPx bQ5
attribute [go_sem] underlying0 sz0 underlying1 sz1 underlying2 sz2 underlying3 sz3 underlying4 sz4 underlying5 sz5 underlying6 sz6 underlying7 sz7 underlying8 sz8 underlying9 sz9 underlying10 bXl underlying11 bXm underlying12 bXn underlying13 bXo underlying14 bXp underlying15 bXq underlying16 bXr underlying17 bXs underlying18 bXt underlying19 bXu underlying20 bXv underlying21 bXw underlying22 bXx underlying23 bXy underlying24 bXz underlying25 bY0 underlying26 bY1 underlying27 bY2 underlying28 bNv underlying29 bY3 underlying30 bY4 underlying31 bY5 underlying32 bY6 underlying33 bY7 underlying34 bY8 underlying35 bY9 underlying36 bYa underlying37 bYb underlying38 bYc underlying39 bYd underlying40 aLo underlying41 bYe underlying42 bYf underlying43 bYg underlying44 bYh underlying45 bYi underlying46 bYj underlying47 bYk underlying48 bYl underlying49 bYm underlying50 bYn underlying51 bYo underlying52 bYp underlying53 bYq underlying54 bYr underlying55 bYs underlying56 aVd underlying57 bYt underlying58 bYu underlying59 bYv underlying60 bYw underlying61 aLp underlying62 bYx underlying63 bYy underlying64 bYz underlying65 bZ0 underlying66 bZ1 underlying67 bZ2 underlying68 bZ3 underlying69 bNw underlying70 bZ4 underlying71 bZ5 underlying72 bZ6 underlying73 bZ7 underlying74 bZ8 underlying75 bZ9 underlying76 bZa underlying77 bZb underlying78 bZc underlying79 bZd underlying80 bZe underlying81 bZf underlying82 bZg underlying83 bZh underlying84 bZi underlying85 bZj underlying86 bZk underlying87 bZl underlying88 bZm underlying89 bZn underlying90 bZo underlying91 bZp underlying92 bZq underlying93 bZr underlying94 bKu underlying95 bZs underlying96 bKv underlying97 bZt underlying98 bZu underlying99 bZv underlying100 bQe underlying101 bQf underlying102 bQg underlying103 bQh underlying104 bQi underlying105 bQj underlying106 bQk underlying107 bQl underlying108 bQm underlying109 bQn underlying110 bQo underlying111 bQp underlying112 bQq underlying113 bQr underlying114 bQs underlying115 bQt underlying116 bQu underlying117 bQv underlying118 bQw underlying119 bQx underlying120 bQy underlying121 bQz underlying122 bR0 underlying123 bR1 underlying124 bR2 underlying125 bR3 underlying126 bR4 underlying127 bR5 underlying128 bR6 underlying129 bR7 underlying130 bR8 underlying131 bR9 underlying132 bRa underlying133 bRb underlying134 bRc underlying135 bRd underlying136 bRe underlying137 bRf underlying138 bRg underlying139 bRh underlying140 bRi underlying141 bRj underlying142 bRk underlying143 bRl underlying144 bRm underlying145 bRn underlying146 bRo underlying147 bRp underlying148 bRq underlying149 bRr underlying150 bRs underlying151 bRt underlying152 bRu underlying153 bRv underlying154 bRw underlying155 bRx underlying156 bRy underlying157 bRz underlying158 bS0 underlying159 bS1 underlying160 bS2 underlying161 bS3 underlying162 bS4 underlying163 bS5 underlying164 bS6 underlying165 bS7 underlying166 bS8 underlying167 bS9 underlying168 bSa underlying169 bSb underlying170 bSc underlying171 bSd underlying172 bSe underlying173 bSf underlying174 bSg underlying175 bSh underlying176 bSi underlying177 bSj underlying178 bSk underlying179 bSl underlying180 aIv underlying181 bSm underlying182 bSn underlying183 bSo underlying185 bSp underlying186 bSq underlying187 bSr underlying188 bSs underlying189 bSt underlying190 bSu underlying191 bSv underlying192 bSw underlying193 bSx underlying194 aZw underlying195 bSy underlying196 bSz underlying197 bT0 underlying198 bT1 underlying199 bT2 underlying200 bT3 underlying201 bT4 underlying202 bT5 underlying203 bT6 underlying204 bT7 underlying205 bT8 underlying206 bT9 underlying207 bTa underlying208 bTb underlying209 bTc underlying210 bTd underlying211 bTe underlying212 bTf underlying213 bTg underlying214 bTh underlying215 bTi underlying216 bTj underlying217 bTk underlying218 bTl underlying219 bTm underlying220 bTn underlying221 bTo underlying222 bTp underlying223 bTq underlying224 bTr underlying225 bTs underlying227 bTt underlying229 bTu underlying231 bTv underlying232 bTw underlying233 bTx underlying234 bTy underlying235 bTz underlying236 bU0 underlying237 bU1 underlying243 bU2 underlying246 bU3 underlying247 bU4 underlying248 bU5 underlying249 bU6 underlying252 bU7 underlying253 bU8 underlying254 bU9 underlying256 bUa underlying257 bUb underlying258 bUc underlying259 bUd underlying260 bUe underlying261 bUf underlying262 bUg underlying263 bUh underlying264 bUi underlying265 bUj underlying266 bUk underlying267 bUl underlying268 bUm underlying269 bUn underlying270 bUo underlying271 bUp underlying272 bUq underlying274 bUr underlying277 bUs underlying281 bUt underlying282 bUu underlying283 bUv underlying284 bUw underlying285 bUx underlying286 bUy underlying287 bUz underlying288 bV0 underlying289 bV1 underlying290 bV2 underlying291 bV3 underlying292 bV4 underlying293 bV5 underlying294 bV6 underlying296 bV7 underlying297 bV8 underlying298 bV9 underlying299 bVa underlying301 bVb underlying302 bVc underlying303 bVd underlying304 bVe underlying306 bVf underlying307 bVg underlying310 bVh underlying316 bVi underlying317 bVj underlying319 bVk underlying320 bVl underlying321 bVm underlying322 bVn underlying323 bVo underlying324 bVp underlying325 bVq underlying326 bVr underlying327 bVs underlying328 bVt underlying329 bVu underlying330 bVv underlying331 bVw
end Go.Proofs.YtkdohhmacfoolaaGreatDoor
